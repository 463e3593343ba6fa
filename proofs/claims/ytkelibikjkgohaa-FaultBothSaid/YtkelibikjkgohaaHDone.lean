/- fault.done: what an act makes of a stream, the frames aside. -/
import Derived.Test.YtkelibikjkgohaaHClean
import Derived.Test.YtkelibikjkgohaaHTurn
import Derived.Test.YtkelibikjkgohaaHLink
import Derived.Test.YtkelibikjkgohaaF77
namespace Go.Proofs.Ytkelibikjkgohaa.P
set_option linter.unusedVariables false
open Go.RowKit Go.Proofs.YtkelibikjkgohaaW.PrintWords Go.Proofs.YtkelibikjkgohaaW.PrintLast Go.Proofs.YtkelibikjkgohaaW.PrintMore

theorem sz_ofL (l : Sp.Str) : (Sp.ofL l).size = l.length := by rw [← Sp.toL_length, Sp.toL_ofL]
theorem turn_len (l : Sp.Str) (k : Nat) : (Sp.turn l k).length = l.length := by
  induction l generalizing k with
  | nil => cases k <;> rfl
  | cons c t ih => cases k with
    | zero => rfl
    | succ k => simp [Sp.turn, ih]

theorem below_step {w W w' : World} (h : Below w.heap.size w W) (k : Below W.heap.size W w') : Below w.heap.size w w' := h.trans (k.mono h.size)

theorem pick_calls (n m : Int) (w : World) (hm : 1 ≤ m ∧ m ≤ 4611686018427387904) :
    Calls Try.prog 77 #[.int .i64 n, .int .i64 m] w fun e w' => e = .returned (.int .i64 (n % m)) ∧ ∃ k, w' = w.drewN k := by
  refine (fault_pick.calls n m (n % m) w ?_).mono fun e w' ⟨h1, h2⟩ => ⟨h1, h2.out⟩
  unfold fault_pick.f
  rw [if_neg (by omega), if_neg (by omega)]
  have h1 := Int.tmod_lt_of_pos n (show 0 < m by omega)
  have h2 := Int.lt_tmod_of_pos n (show 0 < m by omega)
  have e2 : wrap64 (Int.tmod n m + m) = Int.tmod n m + m := by unfold wrap64; omega
  rw [e2, tmod_twice _ _ (by omega)]

theorem pick_none (n m : Int) (w : World) (hm : m ≤ 0) :
    Calls Try.prog 77 #[.int .i64 n, .int .i64 m] w fun e w' => e = .returned (.int .i64 (-1)) ∧ ∃ k, w' = w.drewN k := by
  refine (fault_pick.calls n m (-1) w ?_).mono fun e w' ⟨h1, h2⟩ => ⟨h1, h2.out⟩
  unfold fault_pick.f
  rw [if_pos hm]

/-- fault.done, no frame -/
def doneB (h n : Int) (text base : ByteArray) : ByteArray :=
  if h % 7 = 1 then base
  else if h % 7 = 2 then base.extract 0 (n % (base.size + 1)).toNat
  else if h % 7 = 3 then Sp.ofL (Sp.clean (Sp.toL text))
  else if h % 7 = 4 then Sp.ofL (Sp.clean (if base.size = 0 then Sp.toL base else Sp.turn (Sp.toL base) (n % base.size).toNat))
  else ⟨#[]⟩

set_option maxRecDepth 100000 in
set_option maxHeartbeats 4000000 in
theorem done_0 (c0 c1 c2 c3 c4 : Int) (A0 : Option Addr) (n0 cp0 : Nat) (h n : Int) (text base : ByteArray) (r s : Int) (w : World) (hh : h % 7 = 0) :
    Calls Try.prog 78 #[.agg #[.int .i64 c0, .int .i64 c1, .int .i64 c2, .int .i64 c3, .int .i64 c4, .slice A0 n0 cp0], .agg #[.int .i64 h, .int .i64 n, .string text], .int .i64 r, .int .i64 s, .string base] w fun e w' => e = .returned (.string ⟨#[]⟩) ∧ Below w.heap.size w w' := by
  go_enter Try.func78, Try.ntmps78
  go_wp2_with (go_at_call 77; (with_reducible refine (pick_calls _ _ _ (by decide)).mono ?_); rintro e w1 ⟨rfl, q, rfl⟩; try rw [hh])
  go_ret
  exact ⟨rfl, by repeat (first | exact Below.refl _ _ | apply below_alloc | apply pw_below_drewN)⟩

set_option maxRecDepth 100000 in
set_option maxHeartbeats 4000000 in
theorem done_1 (c0 c1 c2 c3 c4 : Int) (A0 : Option Addr) (n0 cp0 : Nat) (h n : Int) (text base : ByteArray) (r s : Int) (w : World) (hh : h % 7 = 1) :
    Calls Try.prog 78 #[.agg #[.int .i64 c0, .int .i64 c1, .int .i64 c2, .int .i64 c3, .int .i64 c4, .slice A0 n0 cp0], .agg #[.int .i64 h, .int .i64 n, .string text], .int .i64 r, .int .i64 s, .string base] w fun e w' => e = .returned (.string base) ∧ Below w.heap.size w w' := by
  go_enter Try.func78, Try.ntmps78
  go_wp2_with (go_at_call 77; (with_reducible refine (pick_calls _ _ _ (by decide)).mono ?_); rintro e w1 ⟨rfl, q, rfl⟩; try rw [hh])
  go_ret
  exact ⟨rfl, by repeat (first | exact Below.refl _ _ | apply below_alloc | apply pw_below_drewN)⟩

set_option maxRecDepth 100000 in
set_option maxHeartbeats 4000000 in
theorem done_3 (c0 c1 c2 c3 c4 : Int) (A0 : Option Addr) (n0 cp0 : Nat) (h n : Int) (text base t : ByteArray) (r s : Int) (w : World) (hh : h % 7 = 3) (ht : sym_Clean.f text = some t) :
    Calls Try.prog 78 #[.agg #[.int .i64 c0, .int .i64 c1, .int .i64 c2, .int .i64 c3, .int .i64 c4, .slice A0 n0 cp0], .agg #[.int .i64 h, .int .i64 n, .string text], .int .i64 r, .int .i64 s, .string base] w fun e w' => e = .returned (.string t) ∧ Below w.heap.size w w' := by
  have HT := Lib.hid ht
  clear ht
  go_enter Try.func78, Try.ntmps78
  go_wp2_with (first | (go_at_call 77; (with_reducible refine (pick_calls _ _ _ (by decide)).mono ?_); rintro e w1 ⟨rfl, q, rfl⟩; try rw [hh]) | (go_at_call 99; (with_reducible refine (sym_Clean.calls _ _ _ HT.out).mono ?_); rintro e w1 ⟨rfl, hB⟩; have HB := Lib.hid hB; clear hB))
  go_ret
  refine ⟨rfl, below_step ?_ HB.out⟩
  repeat (first | exact Below.refl _ _ | apply below_alloc | apply pw_below_drewN)

set_option maxRecDepth 100000 in
set_option maxHeartbeats 4000000 in
theorem done_2 (c0 c1 c2 c3 c4 : Int) (A0 : Option Addr) (n0 cp0 : Nat) (h n : Int) (text base : ByteArray) (r s : Int) (w : World) (hh : h % 7 = 2) (hb : base.size < 4611686018427387904) :
    Calls Try.prog 78 #[.agg #[.int .i64 c0, .int .i64 c1, .int .i64 c2, .int .i64 c3, .int .i64 c4, .slice A0 n0 cp0], .agg #[.int .i64 h, .int .i64 n, .string text], .int .i64 r, .int .i64 s, .string base] w fun e w' => e = .returned (.string (base.extract 0 (n % (base.size + 1)).toNat)) ∧ Below w.heap.size w w' := by
  have h0 : 0 ≤ n % ((base.size : Int) + 1) := Int.emod_nonneg _ (by omega)
  have h1 : n % ((base.size : Int) + 1) < (base.size : Int) + 1 := Int.emod_lt_of_pos _ (by omega)
  obtain ⟨k, hk⟩ := Int.eq_ofNat_of_zero_le h0
  have h2 : k ≤ base.size := by omega
  rw [hk, Int.toNat_natCast]
  have HK := Lib.hid hk
  clear hk h0 h1
  go_enter Try.func78, Try.ntmps78
  go_wp2_with (go_at_call 77; (with_reducible refine (pick_calls _ _ _ ⟨by omega, by omega⟩).mono ?_); rintro e w1 ⟨rfl, q, rfl⟩; first | rw [hh] | rw [HK.out] | skip)
  go_ret
  exact ⟨rfl, by repeat (first | exact Below.refl _ _ | apply below_alloc | apply pw_below_drewN)⟩

set_option maxRecDepth 100000 in
set_option maxHeartbeats 4000000 in
theorem done_4 (c0 c1 c2 c3 c4 : Int) (A0 : Option Addr) (n0 cp0 : Nat) (h n : Int) (text base t u : ByteArray) (r s : Int) (w : World) (hh : h % 7 = 4) (hb : base.size < 4611686018427387904) (k : Int) (hp : ∀ w : World, Calls Try.prog 77 #[.int .i64 n, .int .i64 base.size] w fun e w' => e = .returned (.int .i64 k) ∧ ∃ q, w' = w.drewN q) (ht : sym_Turn.f base k = some u) (hc : sym_Clean.f u = some t) :
    Calls Try.prog 78 #[.agg #[.int .i64 c0, .int .i64 c1, .int .i64 c2, .int .i64 c3, .int .i64 c4, .slice A0 n0 cp0], .agg #[.int .i64 h, .int .i64 n, .string text], .int .i64 r, .int .i64 s, .string base] w fun e w' => e = .returned (.string t) ∧ Below w.heap.size w w' := by
  have HT := Lib.hid ht
  have HC := Lib.hid hc
  have HP := Lib.hid hp
  clear ht hc hp
  go_enter Try.func78, Try.ntmps78
  go_wp2_with (first | (go_at_call 77; first | ((with_reducible refine (HP.out _).mono ?_); rintro e w1 ⟨rfl, q, rfl⟩) | ((with_reducible refine (pick_calls _ _ _ (by decide)).mono ?_); rintro e w1 ⟨rfl, q, rfl⟩; try rw [hh])) | (go_at_call 100; (with_reducible refine (sym_Turn.calls _ _ _ _ HT.out).mono ?_); rintro e w1 ⟨rfl, hB⟩; have HB := Lib.hid hB; clear hB) | (go_at_call 99; (with_reducible refine (sym_Clean.calls _ _ _ HC.out).mono ?_); rintro e w2 ⟨rfl, hB⟩; have HB2 := Lib.hid hB; clear hB))
  go_ret
  refine ⟨rfl, below_step ?_ HB2.out⟩
  refine below_step ?_ HB.out
  repeat (first | exact Below.refl _ _ | apply below_alloc | apply pw_below_drewN)

theorem done_any (c0 c1 c2 c3 c4 : Int) (A0 : Option Addr) (n0 cp0 : Nat) (h n : Int) (text base : ByteArray) (r s : Int) (w : World) (hh : h % 7 ≠ 5 ∧ h % 7 ≠ 6) (hb : base.size < 4611686018427387904) (ht : text.size < 4611686018427387904) :
    Calls Try.prog 78 #[.agg #[.int .i64 c0, .int .i64 c1, .int .i64 c2, .int .i64 c3, .int .i64 c4, .slice A0 n0 cp0], .agg #[.int .i64 h, .int .i64 n, .string text], .int .i64 r, .int .i64 s, .string base] w fun e w' => e = .returned (.string (doneB h n text base)) ∧ Below w.heap.size w w' := by
  have h0 := Int.emod_nonneg h (show (7 : Int) ≠ 0 by decide)
  have h7 := Int.emod_lt_of_pos h (show (0 : Int) < 7 by decide)
  have hcases : h % 7 = 0 ∨ h % 7 = 1 ∨ h % 7 = 2 ∨ h % 7 = 3 ∨ h % 7 = 4 := by omega
  unfold doneB
  rcases hcases with e | e | e | e | e
  all_goals rw [e]
  · exact done_0 c0 c1 c2 c3 c4 A0 n0 cp0 h n text base r s w e
  · exact done_1 c0 c1 c2 c3 c4 A0 n0 cp0 h n text base r s w e
  · exact done_2 c0 c1 c2 c3 c4 A0 n0 cp0 h n text base r s w e hb
  · exact done_3 c0 c1 c2 c3 c4 A0 n0 cp0 h n text base _ r s w e (by unfold sym_Clean.f; rw [if_pos (by omega)]; simp)
  · by_cases hz : base.size = 0
    · refine done_4 c0 c1 c2 c3 c4 A0 n0 cp0 h n text base _ (if base.size = 0 then base else Sp.ofL (Sp.turn (Sp.toL base) (n % base.size).toNat)) r s w e hb (-1) (fun w => pick_none _ _ _ (by omega)) (by unfold sym_Turn.f; rw [if_pos (by omega), if_pos (Or.inl (by omega)), if_pos hz]) ?_
      unfold sym_Clean.f
      rw [if_pos hz, if_pos (by omega)]
      simp [hz]
    · have hk := Int.emod_nonneg n (show (base.size : Int) ≠ 0 by omega)
      have hk' := Int.emod_lt_of_pos n (show (0 : Int) < base.size by omega)
      refine done_4 c0 c1 c2 c3 c4 A0 n0 cp0 h n text base _ (Sp.ofL (Sp.turn (Sp.toL base) (n % base.size).toNat)) r s w e hb (n % base.size) (fun w => pick_calls _ _ _ (by omega)) (by unfold sym_Turn.f; rw [if_pos (by omega), if_neg (by omega)]) ?_
      unfold sym_Clean.f
      rw [if_pos (by rw [sz_ofL, turn_len, Sp.toL_length]; omega), Sp.toL_ofL]
      simp [hz]
end Go.Proofs.Ytkelibikjkgohaa.P
