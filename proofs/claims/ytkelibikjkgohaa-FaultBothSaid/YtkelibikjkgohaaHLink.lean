/- ring.Link of two nodes. -/
import Derived.Test.YtkelibikjkgohaaHFault
import Derived.Test.YtkelibikjkgohaaF128
namespace Go.Proofs.Ytkelibikjkgohaa.P
set_option linter.unusedVariables false
open Go.RowKit Go.Proofs.YtkelibikjkgohaaW.PrintWords Go.Proofs.YtkelibikjkgohaaW.PrintLast Go.Proofs.YtkelibikjkgohaaW.PrintMore

theorem tmod_twice (x n : Int) (h0 : 0 < n) : Int.tmod (Int.tmod x n + n) n = x % n := by
  have h1 : Int.tmod x n + n = (Int.tmod x n + n) := rfl
  rcases Int.le_total 0 x with hx | hx
  · rw [Int.tmod_eq_emod_of_nonneg hx, Int.tmod_eq_emod_of_nonneg (by have := Int.emod_nonneg x (show n ≠ 0 by omega); omega)]
    simp
  · have e : Int.tmod x n = -((-x) % n) := by
      have h2 := Int.neg_tmod (a := -x) (b := n)
      rw [Int.neg_neg] at h2
      rw [h2, Int.tmod_eq_emod_of_nonneg (by omega)]
    have h3 := Int.emod_nonneg (-x) (show n ≠ 0 by omega)
    have h4 := Int.emod_lt_of_pos (-x) h0
    rw [e, Int.tmod_eq_emod_of_nonneg (by omega)]
    have h5 := Int.mul_ediv_add_emod (-x) n
    have h6 : -((-x) % n) + n = x + n * (-x / n + 1) := by
      rw [Int.mul_add, Int.mul_one]; omega
    rw [h6, Int.add_mul_emod_self_left]

theorem at_calls (n i d : Int) (w : World) (hn : 1 ≤ n ∧ n ≤ 100) (hi : -1000 ≤ i + d ∧ i + d ≤ 1000) :
    Calls Try.prog 128 #[.int .i64 n, .int .i64 i, .int .i64 d] w fun e w' => e = .returned (.int .i64 ((i + d) % n)) ∧ ∃ m, w' = w.drewN m := by
  refine (ring_At.calls n i d ((i + d) % n) w ?_).mono fun e w' ⟨h1, h2⟩ => ⟨h1, h2.out⟩
  unfold ring_At.f
  rw [if_neg (by omega), if_neg (by omega)]
  have e1 : wrap64 (i + d) = i + d := by unfold wrap64; omega
  have hb : -100 < Int.tmod (i + d) n ∧ Int.tmod (i + d) n < 100 := by
    have h1 := Int.tmod_lt_of_pos (i + d) (show 0 < n by omega)
    have h2 := Int.lt_tmod_of_pos (i + d) (show 0 < n by omega)
    omega
  have e2 : wrap64 (Int.tmod (i + d) n + n) = Int.tmod (i + d) n + n := by unfold wrap64; omega
  rw [e1, e2, tmod_twice _ _ (by omega)]

def linkB (n a b : Int) : Int × Bool :=
  if (a + 1) % n = b then (a, true) else if (b + 1) % n = a then (b, true) else if (a + 2) % n = b then (a + n, true) else if (b + 2) % n = a then (b + n, true) else (0, false)

theorem li_0 (a b : Int) (W : World) : (Instr.index 228 (.agg #[.int .i64 a, .int .i64 b, .int .i64 1, .int .i64 b, .int .i64 a, .int .i64 1, .int .i64 a, .int .i64 b, .int .i64 2, .int .i64 b, .int .i64 a, .int .i64 2]) (.int .i64 0)).run Try.prog W = .ok (.agg #[.int .i64 a, .int .i64 b, .int .i64 1]) W := by kernel_rfl
theorem li_1 (a b : Int) (W : World) : (Instr.index 228 (.agg #[.int .i64 a, .int .i64 b, .int .i64 1, .int .i64 b, .int .i64 a, .int .i64 1, .int .i64 a, .int .i64 b, .int .i64 2, .int .i64 b, .int .i64 a, .int .i64 2]) (.int .i64 1)).run Try.prog W = .ok (.agg #[.int .i64 b, .int .i64 a, .int .i64 1]) W := by kernel_rfl
theorem li_2 (a b : Int) (W : World) : (Instr.index 228 (.agg #[.int .i64 a, .int .i64 b, .int .i64 1, .int .i64 b, .int .i64 a, .int .i64 1, .int .i64 a, .int .i64 b, .int .i64 2, .int .i64 b, .int .i64 a, .int .i64 2]) (.int .i64 2)).run Try.prog W = .ok (.agg #[.int .i64 a, .int .i64 b, .int .i64 2]) W := by kernel_rfl
theorem li_3 (a b : Int) (W : World) : (Instr.index 228 (.agg #[.int .i64 a, .int .i64 b, .int .i64 1, .int .i64 b, .int .i64 a, .int .i64 1, .int .i64 a, .int .i64 b, .int .i64 2, .int .i64 b, .int .i64 a, .int .i64 2]) (.int .i64 3)).run Try.prog W = .ok (.agg #[.int .i64 b, .int .i64 a, .int .i64 2]) W := by kernel_rfl

/-- the round k finds it: its two ends, its step -/
def linkHit (n a b : Int) (k : Nat) : Prop :=
  (k = 0 ∧ (a + 1) % n = b) ∨ (k = 1 ∧ (b + 1) % n = a) ∨ (k = 2 ∧ (a + 2) % n = b) ∨ (k = 3 ∧ (b + 2) % n = a)

/-- none of the first k rounds has found it -/
def linkNot (n a b : Int) (k : Nat) : Prop := ∀ j, j < k → ¬ linkHit n a b j

set_option maxRecDepth 100000 in
set_option maxHeartbeats 2000000 in
theorem link_calls (n a b : Int) (w : World) (hn : 6 ≤ n ∧ n ≤ 12) (ha : 0 ≤ a ∧ a < n) (hb : 0 ≤ b ∧ b < n) :
    Calls Try.prog 177 #[.int .i64 n, .int .i64 a, .int .i64 b] w fun e w' => e = .returned (.tuple #[.int .i64 (linkB n a b).1, .bool (linkB n a b).2]) ∧ Below w.heap.size w w' := by
  obtain ⟨n0, n1⟩ := hn
  obtain ⟨a0, a1⟩ := ha
  obtain ⟨b0, b1⟩ := hb
  have q1 : decide (a < 0) = false := decide_eq_false (by omega)
  have q2 : decide (b < 0) = false := decide_eq_false (by omega)
  have q3 : decide (n ≤ a) = false := decide_eq_false (by omega)
  have q4 : decide (n ≤ b) = false := decide_eq_false (by omega)
  go_enter Try.func177, Try.ntmps177
  go_wp2
  clear q1 q2 q3 q4
  go_loopw [39] (fun t wr => ∃ k : Nat, k ≤ 4 ∧ t = .int .i64 k ∧ Below w.heap.size w wr ∧ Hid (linkNot n a b k)) (fun t _ => 4 - (intOf t).toNat)
  case atStart => exact ⟨0, by omega, rfl, Below.refl _ _, Lib.hid (fun j hj => absurd hj (by omega))⟩
  case round =>
    obtain ⟨k, hk, rfl, hB, HN⟩ := hrel
    have HB := Lib.hid hB
    clear hB
    have i0 := li_0 a b
    have i1 := li_1 a b
    have i2 := li_2 a b
    have i3 := li_3 a b
    by_cases hlt : k < 4
    · have h4 : k = 0 ∨ k = 1 ∨ k = 2 ∨ k = 3 := by omega
      rcases h4 with rfl | rfl | rfl | rfl
      · by_cases hx : (a + 1) % n = b
        · have kx : ((a + 1) % n == b) = true := beq_iff_eq.2 hx
          have HL := Lib.hid (show linkB n a b = (a, true) from by unfold linkB;  rw [if_pos hx])
          have hv : linkB n a b = (a, true) := HL.out
          clear hx HN hv
          go_wp2
          clear i0 i1 i2 i3
          go_quiet ((go_at_call 128; exact Calls.quiet_of (at_calls _ _ _ _ ⟨by omega, by omega⟩ ⟨by omega, by omega⟩)))
          go_wp2
          go_ret2
          exact ⟨by rw [HL.out]; rfl, pw_below_drewN (below_alloc HB.out _) _⟩
        · have kx : ((a + 1) % n == b) = false := beq_eq_false_iff_ne.2 hx
          have HN' := Lib.hid (show linkNot n a b 1 from fun j hj hh => by
            rcases Nat.lt_or_ge j 0 with h | h
            · exact HN.out j h hh
            · obtain rfl : j = 0 := by omega
              unfold linkHit at hh
              rcases hh with ⟨h1, h2⟩ | ⟨h1, h2⟩ | ⟨h1, h2⟩ | ⟨h1, h2⟩
              all_goals first | exact hx h2 | exact absurd h1 (by decide))
          clear hx HN
          go_wp2
          clear i0 i1 i2 i3
          go_quiet ((go_at_call 128; exact Calls.quiet_of (at_calls _ _ _ _ ⟨by omega, by omega⟩ ⟨by omega, by omega⟩)))
          go_wp2
          go_roundw
          case rel => exact ⟨1, by omega, rfl, pw_below_drewN (below_alloc HB.out _) _, HN'⟩
          case measure => simp [intOf]
      · by_cases hx : (b + 1) % n = a
        · have kx : ((b + 1) % n == a) = true := beq_iff_eq.2 hx
          have HL := Lib.hid (show linkB n a b = (b, true) from by unfold linkB; rw [if_neg (fun h => HN.out 0 (by omega) (Or.inl ⟨rfl, h⟩))]; rw [if_pos hx])
          have hv : linkB n a b = (b, true) := HL.out
          clear hx HN hv
          go_wp2
          clear i0 i1 i2 i3
          go_quiet ((go_at_call 128; exact Calls.quiet_of (at_calls _ _ _ _ ⟨by omega, by omega⟩ ⟨by omega, by omega⟩)))
          go_wp2
          go_ret2
          exact ⟨by rw [HL.out]; rfl, pw_below_drewN (below_alloc HB.out _) _⟩
        · have kx : ((b + 1) % n == a) = false := beq_eq_false_iff_ne.2 hx
          have HN' := Lib.hid (show linkNot n a b 2 from fun j hj hh => by
            rcases Nat.lt_or_ge j 1 with h | h
            · exact HN.out j h hh
            · obtain rfl : j = 1 := by omega
              unfold linkHit at hh
              rcases hh with ⟨h1, h2⟩ | ⟨h1, h2⟩ | ⟨h1, h2⟩ | ⟨h1, h2⟩
              all_goals first | exact hx h2 | exact absurd h1 (by decide))
          clear hx HN
          go_wp2
          clear i0 i1 i2 i3
          go_quiet ((go_at_call 128; exact Calls.quiet_of (at_calls _ _ _ _ ⟨by omega, by omega⟩ ⟨by omega, by omega⟩)))
          go_wp2
          go_roundw
          case rel => exact ⟨2, by omega, rfl, pw_below_drewN (below_alloc HB.out _) _, HN'⟩
          case measure => simp [intOf]
      · by_cases hx : (a + 2) % n = b
        · have kx : ((a + 2) % n == b) = true := beq_iff_eq.2 hx
          have HL := Lib.hid (show linkB n a b = (a + n, true) from by unfold linkB; rw [if_neg (fun h => HN.out 0 (by omega) (Or.inl ⟨rfl, h⟩))]; rw [if_neg (fun h => HN.out 1 (by omega) (Or.inr (Or.inl ⟨rfl, h⟩)))]; rw [if_pos hx])
          have hv : linkB n a b = (a + n, true) := HL.out
          clear hx HN hv
          go_wp2
          clear i0 i1 i2 i3
          go_quiet ((go_at_call 128; exact Calls.quiet_of (at_calls _ _ _ _ ⟨by omega, by omega⟩ ⟨by omega, by omega⟩)))
          go_wp2
          go_ret2
          exact ⟨by rw [HL.out]; rfl, pw_below_drewN (below_alloc HB.out _) _⟩
        · have kx : ((a + 2) % n == b) = false := beq_eq_false_iff_ne.2 hx
          have HN' := Lib.hid (show linkNot n a b 3 from fun j hj hh => by
            rcases Nat.lt_or_ge j 2 with h | h
            · exact HN.out j h hh
            · obtain rfl : j = 2 := by omega
              unfold linkHit at hh
              rcases hh with ⟨h1, h2⟩ | ⟨h1, h2⟩ | ⟨h1, h2⟩ | ⟨h1, h2⟩
              all_goals first | exact hx h2 | exact absurd h1 (by decide))
          clear hx HN
          go_wp2
          clear i0 i1 i2 i3
          go_quiet ((go_at_call 128; exact Calls.quiet_of (at_calls _ _ _ _ ⟨by omega, by omega⟩ ⟨by omega, by omega⟩)))
          go_wp2
          go_roundw
          case rel => exact ⟨3, by omega, rfl, pw_below_drewN (below_alloc HB.out _) _, HN'⟩
          case measure => simp [intOf]
      · by_cases hx : (b + 2) % n = a
        · have kx : ((b + 2) % n == a) = true := beq_iff_eq.2 hx
          have HL := Lib.hid (show linkB n a b = (b + n, true) from by unfold linkB; rw [if_neg (fun h => HN.out 0 (by omega) (Or.inl ⟨rfl, h⟩))]; rw [if_neg (fun h => HN.out 1 (by omega) (Or.inr (Or.inl ⟨rfl, h⟩)))]; rw [if_neg (fun h => HN.out 2 (by omega) (Or.inr (Or.inr (Or.inl ⟨rfl, h⟩))))]; rw [if_pos hx])
          have hv : linkB n a b = (b + n, true) := HL.out
          clear hx HN hv
          go_wp2
          clear i0 i1 i2 i3
          go_quiet ((go_at_call 128; exact Calls.quiet_of (at_calls _ _ _ _ ⟨by omega, by omega⟩ ⟨by omega, by omega⟩)))
          go_wp2
          go_ret2
          exact ⟨by rw [HL.out]; rfl, pw_below_drewN (below_alloc HB.out _) _⟩
        · have kx : ((b + 2) % n == a) = false := beq_eq_false_iff_ne.2 hx
          have HN' := Lib.hid (show linkNot n a b 4 from fun j hj hh => by
            rcases Nat.lt_or_ge j 3 with h | h
            · exact HN.out j h hh
            · obtain rfl : j = 3 := by omega
              unfold linkHit at hh
              rcases hh with ⟨h1, h2⟩ | ⟨h1, h2⟩ | ⟨h1, h2⟩ | ⟨h1, h2⟩
              all_goals first | exact hx h2 | exact absurd h1 (by decide))
          clear hx HN
          go_wp2
          clear i0 i1 i2 i3
          go_quiet ((go_at_call 128; exact Calls.quiet_of (at_calls _ _ _ _ ⟨by omega, by omega⟩ ⟨by omega, by omega⟩)))
          go_wp2
          go_roundw
          case rel => exact ⟨4, by omega, rfl, pw_below_drewN (below_alloc HB.out _) _, HN'⟩
          case measure => simp [intOf]
    · obtain rfl : k = 4 := by omega
      have HL := Lib.hid (show linkB n a b = (0, false) from by
        unfold linkB
        rw [if_neg (fun h => HN.out 0 (by omega) (Or.inl ⟨rfl, h⟩)), if_neg (fun h => HN.out 1 (by omega) (Or.inr (Or.inl ⟨rfl, h⟩))), if_neg (fun h => HN.out 2 (by omega) (Or.inr (Or.inr (Or.inl ⟨rfl, h⟩)))), if_neg (fun h => HN.out 3 (by omega) (Or.inr (Or.inr (Or.inr ⟨rfl, h⟩))))])
      go_wp2
      go_ret2
      exact ⟨by rw [HL.out]; rfl, HB.out⟩

/-! whom a link's locus hits -/
theorem meth_link_hits (f1 f2 : Int) (W : World) : (method 329 147 (.agg #[.int .i64 f1, .int .i64 f2]) "plaiting/fault.hits").run Try.prog W = .ok (175, .agg #[.int .i64 f1, .int .i64 f2]) W := by kernel_rfl

def linkHits (n at_ a b : Int) : Bool := (linkB n a b).2 && ((linkB n a b).1 == at_)

set_option maxRecDepth 100000 in
theorem link_hits (n k a b : Int) (w : World) (hn : 6 ≤ n ∧ n ≤ 12) (ha : 0 ≤ a ∧ a < n) (hb : 0 ≤ b ∧ b < n) :
    Calls Try.prog 175 #[.agg #[.int .i64 n, .int .i64 k], .int .i64 a, .int .i64 b] w fun e w' => e = .returned (.bool (linkHits n k a b)) ∧ Below w.heap.size w w' := by
  have HL := fun W => Lib.hid (link_calls n a b W hn ha hb)
  have HR := Lib.hid (show linkHits n k a b = ((linkB n a b).2 && ((linkB n a b).1 == k)) from rfl)
  generalize linkHits n k a b = r at *
  generalize linkB n a b = x at HL HR
  obtain ⟨l, is⟩ := x
  clear hn ha hb
  go_enter Try.func175, Try.ntmps175
  have ht : ∀ (u : Int) (v : Bool), (u, v).1 = u := fun _ _ => rfl
  cases is with
  | false =>
    have HL' : ∀ W : World, Hid (Calls Try.prog 177 #[.int .i64 n, .int .i64 a, .int .i64 b] W fun e w' => e = .returned (.tuple #[.int .i64 l, .bool false]) ∧ Below W.heap.size W w') := HL
    clear HL
    go_wp2_with (go_loud (go_at_call 177; (with_reducible refine (HL' _).out.mono ?_); rintro e w1 ⟨rfl, hB⟩; have HB := Lib.hid hB; clear hB))
    go_ret
    exact ⟨by rw [HR.out]; rfl, (below_alloc (Below.refl _ _) _).trans (HB.out.mono (by simp))⟩
  | true =>
    have HL' : ∀ W : World, Hid (Calls Try.prog 177 #[.int .i64 n, .int .i64 a, .int .i64 b] W fun e w' => e = .returned (.tuple #[.int .i64 l, .bool true]) ∧ Below W.heap.size W w') := HL
    clear HL
    go_wp2_with (go_loud (go_at_call 177; (with_reducible refine (HL' _).out.mono ?_); rintro e w1 ⟨rfl, hB⟩; have hc : ∀ p : Addr, p.block < _ → _ := fun p hp => hB.cell hp; have HB := Lib.hid hB; clear hB))
    go_ret
    exact ⟨by rw [HR.out]; rfl, (below_alloc (Below.refl _ _) _).trans (HB.out.mono (by simp))⟩

set_option maxRecDepth 100000 in
theorem hits_link (c0 c1 c2 c3 c4 : Int) (A0 : Option Addr) (n0 cp0 : Nat) (f1 f2 f3 : Int) (A4 : Option Addr) (n4 cp4 : Nat) (A5 : Option Addr) (n5 cp5 : Nat) (a b : Int) (w : World) (hn : 6 ≤ c0 ∧ c0 ≤ 12) (ha : 0 ≤ a ∧ a < c0) (hb : 0 ≤ b ∧ b < c0) :
    Calls Try.prog 40 #[.agg #[.int .i64 c0, .int .i64 c1, .int .i64 c2, .int .i64 c3, .int .i64 c4, .slice A0 n0 cp0], .agg #[.int .i64 2, .int .i64 f1, .int .i64 f2, .int .i64 f3, .slice A4 n4 cp4, .slice A5 n5 cp5], .int .i64 a, .int .i64 b] w fun e w' => e = .returned (.bool (linkHits c0 f1 a b)) ∧ Below w.heap.size w w' := by
  have HL := fun W => Lib.hid (link_hits c0 f1 a b W hn ha hb)
  generalize linkHits c0 f1 a b = r at *
  clear hn ha hb
  go_enter Try.func40, Try.ntmps40
  have hm := meth_link_hits
  go_wp2_with (first | (go_at_call 175; (with_reducible refine (HL _).out.mono ?_); rintro e w1 ⟨rfl, hB⟩; have HB := Lib.hid hB; clear hB) | (go_at_call 80; go_in))
  go_ret
  refine ⟨rfl, Below.trans ?_ (HB.out.mono ?_)⟩
  · repeat (first | exact Below.refl _ _ | apply below_alloc)
  · simp only [World.size_alloc]; omega

/-- fault.Hits -/
def hitsB (c0 f0 f1 a b : Int) : Bool := if f0 = 1 then a == f1 else if f0 = 2 then linkHits c0 f1 a b else false

theorem hits_any (c0 c1 c2 c3 c4 : Int) (A0 : Option Addr) (n0 cp0 : Nat) (f0 f1 f2 f3 : Int) (A4 : Option Addr) (n4 cp4 : Nat) (A5 : Option Addr) (n5 cp5 : Nat) (a b : Int) (w : World) (hk : f0 = 2 → (6 ≤ c0 ∧ c0 ≤ 12) ∧ (0 ≤ a ∧ a < c0) ∧ (0 ≤ b ∧ b < c0)) :
    Calls Try.prog 40 #[.agg #[.int .i64 c0, .int .i64 c1, .int .i64 c2, .int .i64 c3, .int .i64 c4, .slice A0 n0 cp0], .agg #[.int .i64 f0, .int .i64 f1, .int .i64 f2, .int .i64 f3, .slice A4 n4 cp4, .slice A5 n5 cp5], .int .i64 a, .int .i64 b] w fun e w' => e = .returned (.bool (hitsB c0 f0 f1 a b)) ∧ Below w.heap.size w w' := by
  unfold hitsB
  by_cases h1 : f0 = 1
  · subst h1
    rw [if_pos rfl]
    exact hits_node c0 c1 c2 c3 c4 A0 n0 cp0 f1 f2 f3 A4 n4 cp4 A5 n5 cp5 a b w
  · rw [if_neg h1]
    by_cases h2 : f0 = 2
    · subst h2
      rw [if_pos rfl]
      exact hits_link c0 c1 c2 c3 c4 A0 n0 cp0 f1 f2 f3 A4 n4 cp4 A5 n5 cp5 a b w (hk rfl).1 (hk rfl).2.1 (hk rfl).2.2
    · rw [if_neg h2]
      exact hits_none c0 c1 c2 c3 c4 A0 n0 cp0 f0 f1 f2 f3 A4 n4 cp4 A5 n5 cp5 a b w h1 h2
end Go.Proofs.Ytkelibikjkgohaa.P
