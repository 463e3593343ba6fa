/- conf.Check of a configuration that may be: no error. -/
import Derived.Test.YtkelibikjkgohaaK
import Derived.Test.YtkelibikjkgohaaSp
import Derived.Test.YtkelibikjkgohaaBits
import Derived.Lib.Hide
import Derived.Outline
namespace Go.Proofs.Ytkelibikjkgohaa.P
set_option linter.unusedVariables false
open Go.RowKit Go.Proofs.YtkelibikjkgohaaW.PrintWords Go.Proofs.YtkelibikjkgohaaW.PrintLast Go.Proofs.YtkelibikjkgohaaW.PrintMore

/-- what conf.Check allows -/
def confOk (n pi e g first : Int) (l : List Int) : Prop :=
  (6 ≤ n ∧ n ≤ 12) ∧ (0 ≤ e ∧ e ≤ 100) ∧ (0 ≤ g ∧ g ≤ 100) ∧ (0 ≤ first ∧ first ≤ 65535) ∧ (4 * (e + g + 1) ≤ pi ∧ pi ≤ 10000) ∧ l.length ≤ 3 ∧ ∀ a ∈ l, -1 ≤ a ∧ a < n
instance (n pi e g first : Int) (l : List Int) : Decidable (confOk n pi e g first l) := by unfold confOk; infer_instance

def conf_Check.f (a0_0 a0_1 a0_2 a0_3 a0_4 : Int) (l0_5 : List Int) : Option Int := if confOk a0_0 a0_1 a0_2 a0_3 a0_4 l0_5 then some 0 else none

theorem conf_within_yes (n a b : Int) (w : World) (h1 : a ≤ n) (h2 : n ≤ b) : Calls Try.prog 96 #[.int .i64 n, .int .i64 a, .int .i64 b] w fun e w' => e = .returned (.bool true) ∧ w' = w := by
  have k1 : decide (a ≤ n) = true := decide_eq_true h1
  have k2 : decide (n ≤ b) = true := decide_eq_true h2
  go_enter Try.func96, Try.ntmps96
  go_wp2
  go_ret
  exact ⟨rfl, rfl⟩

theorem conf_lit_no (a N : Int) (g : Nat) (w : World) (hc : w.cell? ⟨g, 0, none⟩ = some (.int .i64 N)) (hN : 0 ≤ N ∧ N ≤ 12) (h1 : -1 ≤ a) (h2 : a < N) :
    Calls Try.prog 98 #[.int .i64 a, .pointer (some ⟨g, 0, none⟩)] w fun e w' => e = .returned (.bool false) ∧ w' = w := by
  obtain ⟨n0, n1⟩ := hN
  go_enter Try.func98, Try.ntmps98
  go_wp2_with (go_at_call 96; (with_reducible refine (conf_within_yes _ _ _ _ (by omega) (by omega)).mono ?_); rintro e w1 ⟨rfl, rfl⟩)
  go_ret
  exact ⟨rfl, rfl⟩

set_option maxHeartbeats 400000 in
theorem conf_index_no (A : Option Addr) (c : Nat) (l : List Int) (N : Int) (g : Nat) (w : World) (hr : Kd.C (Kd.int .i64) w A l.length l) (hl : l.length ≤ 3) (hc : w.cell? ⟨g, 0, none⟩ = some (.int .i64 N)) (hN : 0 ≤ N ∧ N ≤ 12) (ha : ∀ a ∈ l, -1 ≤ a ∧ a < N) :
    Calls Try.prog 117 #[.slice A l.length c, .func (Fn.func 98) #[] #[.pointer (some ⟨g, 0, none⟩)]] w fun e w' => e = .returned (.int .i64 (-1)) ∧ w' = w := by
  have HR := Lib.hid hr
  have HA := Lib.hid ha
  have HC := Lib.hid hc
  have HN := Lib.hid hN
  clear hr ha hc hN
  go_enter Try.func117, Try.ntmps117
  go_wp2
  go_loop [8] (fun t => ∃ k : Nat, k ≤ l.length ∧ t = .int .i64 k) (fun t => l.length - (intOf t).toNat)
  case atStart => exact ⟨0, by omega, rfl⟩
  case round =>
    obtain ⟨k, hk, rfl⟩ := hrel
    by_cases hlt : k < l.length
    · obtain ⟨ad, e1, hx⟩ := Kd.at_int HR.out (k : Int) (by omega) (by omega)
      cases e1
      have hrd : rd l (k : Int) = l[k] := by simp [rd, hlt]
      rw [hrd, Int.toNat_natCast] at hx
      have hm := HA.out l[k] (List.getElem_mem hlt)
      obtain ⟨m1, m2⟩ := hm
      clear hrd
      generalize l[k] = a at *
      go_wp2_with (go_at_call 98; (with_reducible refine (conf_lit_no _ N g _ HC.out HN.out m1 m2).mono ?_); rintro e w1 ⟨rfl, rfl⟩)
      go_round
      case rel => exact ⟨k + 1, by omega, by go_num⟩
      case measure => simp [intOf]; omega
    · go_wp2
      go_ret
      exact ⟨rfl, rfl⟩

theorem conf_contains_no (A : Option Addr) (c : Nat) (l : List Int) (N : Int) (g : Nat) (w : World) (hr : Kd.C (Kd.int .i64) w A l.length l) (hl : l.length ≤ 3) (hc : w.cell? ⟨g, 0, none⟩ = some (.int .i64 N)) (hN : 0 ≤ N ∧ N ≤ 12) (ha : ∀ a ∈ l, -1 ≤ a ∧ a < N) :
    Calls Try.prog 97 #[.slice A l.length c, .func (Fn.func 98) #[] #[.pointer (some ⟨g, 0, none⟩)]] w fun e w' => e = .returned (.bool false) ∧ w' = w := by
  have HI := Lib.hid (conf_index_no A c l N g w hr hl hc hN ha)
  clear hr hl hc hN ha
  go_enter Try.func97, Try.ntmps97
  go_wp2_with (go_at_call 117; (with_reducible refine HI.out.mono ?_); rintro e w1 ⟨rfl, rfl⟩)
  go_ret
  exact ⟨rfl, rfl⟩

theorem idx4_0 (x0 x1 x2 x3 : Value) (W : World) : (Instr.index 141 (.agg #[x0, x1, x2, x3]) (.int .i64 0)).run Try.prog W = .ok x0 W := by kernel_rfl
theorem idx4_1 (x0 x1 x2 x3 : Value) (W : World) : (Instr.index 141 (.agg #[x0, x1, x2, x3]) (.int .i64 1)).run Try.prog W = .ok x1 W := by kernel_rfl
theorem idx4_2 (x0 x1 x2 x3 : Value) (W : World) : (Instr.index 141 (.agg #[x0, x1, x2, x3]) (.int .i64 2)).run Try.prog W = .ok x2 W := by kernel_rfl
theorem idx4_3 (x0 x1 x2 x3 : Value) (W : World) : (Instr.index 141 (.agg #[x0, x1, x2, x3]) (.int .i64 3)).run Try.prog W = .ok x3 W := by kernel_rfl

set_option maxRecDepth 100000 in
set_option maxHeartbeats 1000000 in
theorem conf_Check.calls (a0_0 a0_1 a0_2 a0_3 a0_4 : Int) (A0_5 : Option Addr) (c0_5 : Nat) (l0_5 : List Int) (r : Int) (w : World) (hr0_5 : Kd.C (Kd.int .i64) w A0_5 l0_5.length l0_5) (hc0_5 : l0_5.length ≤ c0_5) (h : conf_Check.f a0_0 a0_1 a0_2 a0_3 a0_4 l0_5 = some r) :
    Calls Try.prog 76 #[.agg #[.int .i64 a0_0, .int .i64 a0_1, .int .i64 a0_2, .int .i64 a0_3, .int .i64 a0_4, .slice A0_5 l0_5.length c0_5]] w fun e w' => e = .returned (.int .i64 r) ∧ Below w.heap.size w w' := by
  unfold conf_Check.f at h
  split at h
  case isFalse => exact absurd h (by simp)
  rename_i hk
  obtain rfl := Option.some.inj h
  clear h
  obtain ⟨⟨hn, hn'⟩, ⟨he, he'⟩, ⟨hg, hg'⟩, ⟨hf, hf'⟩, ⟨hp, hp'⟩, hl, ha⟩ := hk
  have HA := Lib.hid ha
  clear ha
  have HR := Lib.hid hr0_5
  clear hr0_5
  go_enter Try.func76, Try.ntmps76
  go_wp2
  go_loopw [18] (fun t wr => ∃ k m : Nat, k ≤ 4 ∧ t = .int .i64 k ∧ wr = (((w.alloc (Obj.cells #[Value.int IntKind.i64 a0_0, Value.int IntKind.i64 a0_1, Value.int IntKind.i64 a0_2, Value.int IntKind.i64 a0_3, Value.int IntKind.i64 a0_4, Value.slice A0_5 l0_5.length c0_5] 24)).alloc (Obj.cells #[Value.int IntKind.i64 6, Value.int IntKind.i64 0, Value.int IntKind.i64 0, Value.int IntKind.i64 0] 141)).alloc (Obj.cells #[Value.int IntKind.i64 12, Value.int IntKind.i64 100, Value.int IntKind.i64 100, Value.int IntKind.i64 65535] 141)).drewN m) (fun t _ => 4 - (intOf t).toNat)
  case atStart => exact ⟨0, 0, by omega, rfl, rfl⟩
  case round =>
    obtain ⟨k, m, hk, rfl, rfl⟩ := hrel
    by_cases hlt : k < 4
    · have h4 : k = 0 ∨ k = 1 ∨ k = 2 ∨ k = 3 := by omega
      rcases h4 with rfl | rfl | rfl | rfl
      all_goals
        have i0 := idx4_0
        have i1 := idx4_1
        have i2 := idx4_2
        have i3 := idx4_3
        go_wp2
        go_quiet ((go_at_call 96; exact quiet_add_same (conf_within_yes _ _ _ _ (by omega) (by omega))))
        clear i0 i1 i2 i3
        go_wp2
        go_roundw
        case rel => first | exact ⟨1, _, by omega, rfl, rfl⟩ | exact ⟨2, _, by omega, rfl, rfl⟩ | exact ⟨3, _, by omega, rfl, rfl⟩ | exact ⟨4, _, by omega, rfl, rfl⟩
        case measure => simp [intOf]
    · obtain rfl : k = 4 := by omega
      go_wp2_with (go_at_call 96; (with_reducible refine (conf_within_yes _ _ _ _ (by omega) (by omega)).mono ?_); rintro e w1 ⟨rfl, rfl⟩)
      refine (conf_contains_no _ _ _ a0_0 _ _ (Kd.C_below HR.out ?hb) hl ?hcell ⟨by omega, by omega⟩ HA.out).mono ?_
      case hb => exact pw_below_drewN (below_alloc (below_alloc (below_alloc (Below.refl _ _) _) _) _) _
      case hcell => go_simp
      rintro e w1 ⟨rfl, rfl⟩
      go_wp2
      go_ret
      exact ⟨rfl, pw_below_drewN (below_alloc (below_alloc (below_alloc (Below.refl _ _) _) _) _) _⟩
end Go.Proofs.Ytkelibikjkgohaa.P
