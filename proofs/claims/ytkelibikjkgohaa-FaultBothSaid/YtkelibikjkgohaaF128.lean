-- printed by wip/tools/plug.py out of the translation; Lean checks it
import Derived.Test.YtkelibikjkgohaaK
namespace Go.Proofs.Ytkelibikjkgohaa.P
open Go.RowKit Go.Proofs.YtkelibikjkgohaaW.PrintWords Go.Proofs.YtkelibikjkgohaaW.PrintLast Go.Proofs.YtkelibikjkgohaaW.PrintMore
attribute [local go_sem] max2_int min2_int max_two min_two max_three min_three max_four min_four
set_option linter.unusedVariables false
set_option linter.unusedSimpArgs false
/-! ### ring_At: function 128 -/
def ring_At.f (a0 : Int) (a1 : Int) (a2 : Int) : Option (Int) := if a0 ≤ 0 then (some 0) else (if a0 = 0 then (none) else (some (Int.tmod (wrap64 ((Int.tmod (wrap64 (a1 + a2)) a0) + a0)) a0)))
set_option maxHeartbeats 8000000 in
set_option maxRecDepth 100000 in
theorem ring_At.calls (a0 : Int) (a1 : Int) (a2 : Int) (r : Int) (w : World) (h : ring_At.f a0 a1 a2 = some r) :
    Calls Try.prog 128 #[.int .i64 a0, .int .i64 a1, .int .i64 a2] w fun e w' => e = .returned (.int .i64 r) ∧ Drawn0 w w' := by
  have H : (if a0 ≤ 0 then (some 0) else (if a0 = 0 then (none) else (some (Int.tmod (wrap64 ((Int.tmod (wrap64 (a1 + a2)) a0) + a0)) a0)))) = some r := h
  clear h
  by_cases c4 : a0 ≤ 0
  · rw [if_pos c4] at H
    have c4b0 : decide (a0 ≤ 0) = true := decide_eq_true c4
    clear c4
    obtain rfl := Option.some.inj H
    go_enter Try.func128, Try.ntmps128
    go_wp2
    go_ret
    exact ⟨by first | rfl | (simp; done) | (simp [*]; done), by repeat (first | exact Drawn0.refl _ | apply Drawn0.step)⟩
  · rw [if_neg c4] at H
    have c4b0 : decide (a0 ≤ 0) = false := decide_eq_false c4
    clear c4
    by_cases c5 : a0 = 0
    · rw [if_pos c5] at H
      exact absurd H (by simp)
    · rw [if_neg c5] at H
      have c5b0 : (a0 == 0) = false := beq_eq_false_iff_ne.mpr c5
      have c5b1 : (a0 != 0) = true := bne_iff_ne.mpr c5
      obtain rfl := Option.some.inj H
      go_enter Try.func128, Try.ntmps128
      go_wp2
      go_ret
      exact ⟨by first | rfl | (simp; done) | (simp [*]; done), by repeat (first | exact Drawn0.refl _ | apply Drawn0.step)⟩

end Go.Proofs.Ytkelibikjkgohaa.P
