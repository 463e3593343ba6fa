-- printed by wip/tools/plug.py out of the translation; Lean checks it
import Derived.Test.YtkelibikjkgohaaK
namespace Go.Proofs.Ytkelibikjkgohaa.P
open Go.RowKit Go.Proofs.YtkelibikjkgohaaW.PrintWords Go.Proofs.YtkelibikjkgohaaW.PrintLast Go.Proofs.YtkelibikjkgohaaW.PrintMore
attribute [local go_sem] max2_int min2_int max_two min_two max_three min_three max_four min_four
set_option linter.unusedVariables false
set_option linter.unusedSimpArgs false
/-! ### plaitingref4_Ends: function 37 -/
def plaitingref4_Ends.f (a0 : Int) (a1 : Int) : Option (Int × Int) := if a1 < a0 then (if a0 = 0 then (none) else (some (a1, Int.tmod (wrap64 (a1 + 1)) a0))) else (if a0 = 0 then (none) else (some (wrap64 (a1 - a0), Int.tmod (wrap64 ((wrap64 (a1 - a0)) + 2)) a0)))
set_option maxHeartbeats 8000000 in
set_option maxRecDepth 100000 in
theorem plaitingref4_Ends.calls (a0 : Int) (a1 : Int) (r1 : Int) (r2 : Int) (w : World) (h : plaitingref4_Ends.f a0 a1 = some (r1, r2)) :
    Calls Try.prog 37 #[.int .i64 a0, .int .i64 a1] w fun e w' => e = .returned (.tuple #[.int .i64 r1, .int .i64 r2]) ∧ Drawn0 w w' := by
  have H : (if a1 < a0 then (if a0 = 0 then (none) else (some (a1, Int.tmod (wrap64 (a1 + 1)) a0))) else (if a0 = 0 then (none) else (some (wrap64 (a1 - a0), Int.tmod (wrap64 ((wrap64 (a1 - a0)) + 2)) a0)))) = some (r1, r2) := h
  clear h
  by_cases c3 : a1 < a0
  · rw [if_pos c3] at H
    have c3b0 : decide (a1 < a0) = true := decide_eq_true c3
    clear c3
    by_cases c4 : a0 = 0
    · rw [if_pos c4] at H
      exact absurd H (by simp)
    · rw [if_neg c4] at H
      have c4b0 : (a0 == 0) = false := beq_eq_false_iff_ne.mpr c4
      have c4b1 : (a0 != 0) = true := bne_iff_ne.mpr c4
      simp only [Option.some.injEq, Prod.mk.injEq] at H
      obtain ⟨rfl, rfl⟩ := H
      go_enter Try.func37, Try.ntmps37
      go_wp2
      repeat (go_quiet (fail); try go_wp2)
      go_ret2
      exact ⟨by first | rfl | (simp; done) | (simp [*]; done), by repeat (first | exact Drawn0.refl _ | apply Drawn0.step)⟩
  · rw [if_neg c3] at H
    have c3b0 : decide (a1 < a0) = false := decide_eq_false c3
    clear c3
    by_cases c5 : a0 = 0
    · rw [if_pos c5] at H
      exact absurd H (by simp)
    · rw [if_neg c5] at H
      have c5b0 : (a0 == 0) = false := beq_eq_false_iff_ne.mpr c5
      have c5b1 : (a0 != 0) = true := bne_iff_ne.mpr c5
      simp only [Option.some.injEq, Prod.mk.injEq] at H
      obtain ⟨rfl, rfl⟩ := H
      go_enter Try.func37, Try.ntmps37
      go_wp2
      repeat (go_quiet (fail); try go_wp2)
      go_ret2
      exact ⟨by first | rfl | (simp; done) | (simp [*]; done), by repeat (first | exact Drawn0.refl _ | apply Drawn0.step)⟩

end Go.Proofs.Ytkelibikjkgohaa.P
