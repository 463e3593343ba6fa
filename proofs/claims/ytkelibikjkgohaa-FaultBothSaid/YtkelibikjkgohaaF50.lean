-- printed by wip/tools/plug.py out of the translation; Lean checks it
import Derived.Test.YtkelibikjkgohaaK
import Derived.Test.YtkelibikjkgohaaF37
namespace Go.Proofs.Ytkelibikjkgohaa.P
open Go.RowKit Go.Proofs.YtkelibikjkgohaaW.PrintWords Go.Proofs.YtkelibikjkgohaaW.PrintLast Go.Proofs.YtkelibikjkgohaaW.PrintMore
attribute [local go_sem] max2_int min2_int max_two min_two max_three min_three max_four min_four
set_option linter.unusedVariables false
set_option linter.unusedSimpArgs false
/-! ### plaitingref4_Link: function 50 -/
def plaitingref4_Link.l0 : Nat → Int → Int → Int → Int → Option (Int × Bool)
  | 0, _, _, _, _ => none
  | k + 1, x0, x1, x2, x8 => if x8 < (wrap64 (2 * x0)) then ((plaitingref4_Ends.f x0 x8).bind fun bt281 => (if bt281.1 = x1 then (if bt281.2 = x2 then (some (x8, true)) else (if bt281.1 = x2 then (if bt281.2 = x1 then (some (x8, true)) else (plaitingref4_Link.l0 k x0 x1 x2 (wrap64 (x8 + 1)))) else (plaitingref4_Link.l0 k x0 x1 x2 (wrap64 (x8 + 1))))) else (if bt281.1 = x2 then (if bt281.2 = x1 then (some (x8, true)) else (plaitingref4_Link.l0 k x0 x1 x2 (wrap64 (x8 + 1)))) else (plaitingref4_Link.l0 k x0 x1 x2 (wrap64 (x8 + 1)))))) else (some (0, false))
def plaitingref4_Link.f (k : Nat) (a0 : Int) (a1 : Int) (a2 : Int) : Option (Int × Bool) := plaitingref4_Link.l0 k a0 a1 a2 0
theorem plaitingref4_Link.mono_l : ∀ k, (∀ y0 y1 y2 y3, LeO (plaitingref4_Link.l0 k y0 y1 y2 y3) (plaitingref4_Link.l0 (k + 1) y0 y1 y2 y3))
  | 0 => fun _ _ _ _ r h => by simp [plaitingref4_Link.l0] at h
  | k + 1 => by
    have ih0 := plaitingref4_Link.mono_l k
    · intro y0 y1 y2 y3
      unfold plaitingref4_Link.l0
      repeat' first
      | (with_reducible exact ih0 _ _ _ _)
      | (with_reducible exact LeO.refl _)
      | (with_reducible exact LeO.none _)
      | (with_reducible refine LeO.ite ?_ ?_)
      | (with_reducible refine LeO.bind ?_ (fun _ => ?_))
      | exact ih0 _ _ _ _
      | exact LeO.none _
      | refine LeO.ite ?_ ?_
      | refine LeO.bind ?_ (fun _ => ?_)
theorem plaitingref4_Link.mono : ∀ a0 a1 a2 k, LeO (plaitingref4_Link.f k a0 a1 a2) (plaitingref4_Link.f (k + 1) a0 a1 a2) := by
  intro a0 a1 a2 k
  have ih0 := plaitingref4_Link.mono_l k
  unfold plaitingref4_Link.f
  repeat' first
      | (with_reducible exact ih0 _ _ _ _)
      | (with_reducible exact LeO.refl _)
      | (with_reducible exact LeO.none _)
      | (with_reducible refine LeO.ite ?_ ?_)
      | (with_reducible refine LeO.bind ?_ (fun _ => ?_))
      | exact ih0 _ _ _ _
      | exact LeO.none _
      | refine LeO.ite ?_ ?_
      | refine LeO.bind ?_ (fun _ => ?_)
set_option maxHeartbeats 8000000 in
set_option maxRecDepth 100000 in
theorem plaitingref4_Link.calls (k : Nat) (a0 : Int) (a1 : Int) (a2 : Int) (r1 : Int) (r2 : Bool) (w : World) (h : plaitingref4_Link.f k a0 a1 a2 = some (r1, r2)) :
    Calls Try.prog 50 #[.int .i64 a0, .int .i64 a1, .int .i64 a2] w fun e w' => e = .returned (.tuple #[.int .i64 r1, .bool r2]) ∧ Drawn0 w w' := by
  have H : (plaitingref4_Link.l0 k a0 a1 a2 0) = some (r1, r2) := h
  clear h
  have H' := Aside0.mk H
  clear H
  go_enter Try.func50, Try.ntmps50
  go_wp2
  go_loopg [8] k (fun kq v8 w' => ∃ (x8_1 : Int), v8 = .int .i64 x8_1 ∧ Aside0 (plaitingref4_Link.l0 kq a0 a1 a2 x8_1 = some (r1, r2)) ∧ Aside0 (kq ≤ k) ∧ Drawn0 w w')
  case atStart => exact ⟨(0), (by first | rfl | (simp; done) | (simp [*]; done)), H', ⟨Nat.le_refl _⟩, by repeat (first | exact Drawn0.refl _ | apply Drawn0.step)⟩
  case round =>
    clear H'
    try clear p2
    obtain ⟨x8_1, rfl, HA, HK1, ⟨m1, rfl⟩⟩ := hrel
    cases gk with
    | zero => exact absurd HA.out (by simp [plaitingref4_Link.l0])
    | succ k1 =>
      have H := HA.out
      clear HA
      simp only [plaitingref4_Link.l0] at H
      by_cases c4 : x8_1 < (wrap64 (2 * a0))
      · rw [if_pos c4] at H
        have c4b0 : decide (x8_1 < (wrap64 (2 * a0))) = true := decide_eq_true c4
        clear c4
        replace H := Option.bind_eq_some_iff.mp H
        obtain ⟨⟨t281, t282⟩, A50, H⟩ := H
        replace H : (if t281 = a1 then (if t282 = a2 then (some (x8_1, true)) else (if t281 = a2 then (if t282 = a1 then (some (x8_1, true)) else (plaitingref4_Link.l0 k1 a0 a1 a2 (wrap64 (x8_1 + 1)))) else (plaitingref4_Link.l0 k1 a0 a1 a2 (wrap64 (x8_1 + 1))))) else (if t281 = a2 then (if t282 = a1 then (some (x8_1, true)) else (plaitingref4_Link.l0 k1 a0 a1 a2 (wrap64 (x8_1 + 1)))) else (plaitingref4_Link.l0 k1 a0 a1 a2 (wrap64 (x8_1 + 1))))) = some (r1, r2) := H
        have A5 := Aside0.mk A50
        clear A50
        by_cases c6 : t281 = a1
        · rw [if_pos c6] at H
          have c6b0 : (t281 == a1) = true := beq_iff_eq.mpr c6
          have c6b1 : (t281 != a1) = false := bne_eq_false_iff_eq.mpr c6
          clear c6
          by_cases c7 : t282 = a2
          · rw [if_pos c7] at H
            have c7b0 : (t282 == a2) = true := beq_iff_eq.mpr c7
            have c7b1 : (t282 != a2) = false := bne_eq_false_iff_eq.mpr c7
            clear c7
            simp only [Option.some.injEq, Prod.mk.injEq] at H
            obtain ⟨rfl, rfl⟩ := H
            go_wp2_with (first | ((with_reducible refine gate_callee (f := 37) rfl ?_); refine goesL_ (some 20) rfl rfl Try.func37 (by kernel_rfl) rfl #[.int .i64 a0, .int .i64 x8_1] rfl (by (try simp only [List.map_toArray, List.map_cons, List.map_nil]); first | done | rfl | (simp only [List.length_drop, List.length_take]; rfl)) ?_; (with_reducible refine (plaitingref4_Ends.calls a0 x8_1 t281 t282 _ A5.out).mono ?_); rintro e w' ⟨rfl, ⟨nd, rfl⟩⟩; refine ⟨_, rfl, ?_⟩))
            go_ret2
            exact ⟨by first | rfl | (simp; done) | (simp [*]; done), by repeat (first | exact Drawn0.refl _ | apply Drawn0.step)⟩
          · rw [if_neg c7] at H
            have c7b0 : (t282 == a2) = false := beq_eq_false_iff_ne.mpr c7
            have c7b1 : (t282 != a2) = true := bne_iff_ne.mpr c7
            by_cases c8 : t281 = a2
            · rw [if_pos c8] at H
              have c8b0 : (t281 == a2) = true := beq_iff_eq.mpr c8
              have c8b1 : (t281 != a2) = false := bne_eq_false_iff_eq.mpr c8
              clear c8
              by_cases c9 : t282 = a1
              · rw [if_pos c9] at H
                have c9b0 : (t282 == a1) = true := beq_iff_eq.mpr c9
                have c9b1 : (t282 != a1) = false := bne_eq_false_iff_eq.mpr c9
                clear c9
                simp only [Option.some.injEq, Prod.mk.injEq] at H
                obtain ⟨rfl, rfl⟩ := H
                go_wp2_with (first | ((with_reducible refine gate_callee (f := 37) rfl ?_); refine goesL_ (some 20) rfl rfl Try.func37 (by kernel_rfl) rfl #[.int .i64 a0, .int .i64 x8_1] rfl (by (try simp only [List.map_toArray, List.map_cons, List.map_nil]); first | done | rfl | (simp only [List.length_drop, List.length_take]; rfl)) ?_; (with_reducible refine (plaitingref4_Ends.calls a0 x8_1 t281 t282 _ A5.out).mono ?_); rintro e w' ⟨rfl, ⟨nd, rfl⟩⟩; refine ⟨_, rfl, ?_⟩))
                go_ret2
                exact ⟨by first | rfl | (simp; done) | (simp [*]; done), by repeat (first | exact Drawn0.refl _ | apply Drawn0.step)⟩
              · rw [if_neg c9] at H
                have c9b0 : (t282 == a1) = false := beq_eq_false_iff_ne.mpr c9
                have c9b1 : (t282 != a1) = true := bne_iff_ne.mpr c9
                have H' := Aside0.mk H
                clear H
                go_wp2_with (first | ((with_reducible refine gate_callee (f := 37) rfl ?_); refine goesL_ (some 20) rfl rfl Try.func37 (by kernel_rfl) rfl #[.int .i64 a0, .int .i64 x8_1] rfl (by (try simp only [List.map_toArray, List.map_cons, List.map_nil]); first | done | rfl | (simp only [List.length_drop, List.length_take]; rfl)) ?_; (with_reducible refine (plaitingref4_Ends.calls a0 x8_1 t281 t282 _ A5.out).mono ?_); rintro e w' ⟨rfl, ⟨nd, rfl⟩⟩; refine ⟨_, rfl, ?_⟩))
                go_roundg k1
                case measure => have := HK1.out; omega
                case rel => exact ⟨(wrap64 (x8_1 + 1)), (by first | rfl | (simp; done) | (simp [*]; done)), H', ⟨by have := HK1.out; omega⟩, by repeat (first | exact Drawn0.refl _ | apply Drawn0.step)⟩
            · rw [if_neg c8] at H
              have c8b0 : (t281 == a2) = false := beq_eq_false_iff_ne.mpr c8
              have c8b1 : (t281 != a2) = true := bne_iff_ne.mpr c8
              have H' := Aside0.mk H
              clear H
              go_wp2_with (first | ((with_reducible refine gate_callee (f := 37) rfl ?_); refine goesL_ (some 20) rfl rfl Try.func37 (by kernel_rfl) rfl #[.int .i64 a0, .int .i64 x8_1] rfl (by (try simp only [List.map_toArray, List.map_cons, List.map_nil]); first | done | rfl | (simp only [List.length_drop, List.length_take]; rfl)) ?_; (with_reducible refine (plaitingref4_Ends.calls a0 x8_1 t281 t282 _ A5.out).mono ?_); rintro e w' ⟨rfl, ⟨nd, rfl⟩⟩; refine ⟨_, rfl, ?_⟩))
              go_roundg k1
              case measure => have := HK1.out; omega
              case rel => exact ⟨(wrap64 (x8_1 + 1)), (by first | rfl | (simp; done) | (simp [*]; done)), H', ⟨by have := HK1.out; omega⟩, by repeat (first | exact Drawn0.refl _ | apply Drawn0.step)⟩
        · rw [if_neg c6] at H
          have c6b0 : (t281 == a1) = false := beq_eq_false_iff_ne.mpr c6
          have c6b1 : (t281 != a1) = true := bne_iff_ne.mpr c6
          by_cases c10 : t281 = a2
          · rw [if_pos c10] at H
            have c10b0 : (t281 == a2) = true := beq_iff_eq.mpr c10
            have c10b1 : (t281 != a2) = false := bne_eq_false_iff_eq.mpr c10
            clear c10
            by_cases c11 : t282 = a1
            · rw [if_pos c11] at H
              have c11b0 : (t282 == a1) = true := beq_iff_eq.mpr c11
              have c11b1 : (t282 != a1) = false := bne_eq_false_iff_eq.mpr c11
              clear c11
              simp only [Option.some.injEq, Prod.mk.injEq] at H
              obtain ⟨rfl, rfl⟩ := H
              go_wp2_with (first | ((with_reducible refine gate_callee (f := 37) rfl ?_); refine goesL_ (some 20) rfl rfl Try.func37 (by kernel_rfl) rfl #[.int .i64 a0, .int .i64 x8_1] rfl (by (try simp only [List.map_toArray, List.map_cons, List.map_nil]); first | done | rfl | (simp only [List.length_drop, List.length_take]; rfl)) ?_; (with_reducible refine (plaitingref4_Ends.calls a0 x8_1 t281 t282 _ A5.out).mono ?_); rintro e w' ⟨rfl, ⟨nd, rfl⟩⟩; refine ⟨_, rfl, ?_⟩))
              go_ret2
              exact ⟨by first | rfl | (simp; done) | (simp [*]; done), by repeat (first | exact Drawn0.refl _ | apply Drawn0.step)⟩
            · rw [if_neg c11] at H
              have c11b0 : (t282 == a1) = false := beq_eq_false_iff_ne.mpr c11
              have c11b1 : (t282 != a1) = true := bne_iff_ne.mpr c11
              have H' := Aside0.mk H
              clear H
              go_wp2_with (first | ((with_reducible refine gate_callee (f := 37) rfl ?_); refine goesL_ (some 20) rfl rfl Try.func37 (by kernel_rfl) rfl #[.int .i64 a0, .int .i64 x8_1] rfl (by (try simp only [List.map_toArray, List.map_cons, List.map_nil]); first | done | rfl | (simp only [List.length_drop, List.length_take]; rfl)) ?_; (with_reducible refine (plaitingref4_Ends.calls a0 x8_1 t281 t282 _ A5.out).mono ?_); rintro e w' ⟨rfl, ⟨nd, rfl⟩⟩; refine ⟨_, rfl, ?_⟩))
              go_roundg k1
              case measure => have := HK1.out; omega
              case rel => exact ⟨(wrap64 (x8_1 + 1)), (by first | rfl | (simp; done) | (simp [*]; done)), H', ⟨by have := HK1.out; omega⟩, by repeat (first | exact Drawn0.refl _ | apply Drawn0.step)⟩
          · rw [if_neg c10] at H
            have c10b0 : (t281 == a2) = false := beq_eq_false_iff_ne.mpr c10
            have c10b1 : (t281 != a2) = true := bne_iff_ne.mpr c10
            have H' := Aside0.mk H
            clear H
            go_wp2_with (first | ((with_reducible refine gate_callee (f := 37) rfl ?_); refine goesL_ (some 20) rfl rfl Try.func37 (by kernel_rfl) rfl #[.int .i64 a0, .int .i64 x8_1] rfl (by (try simp only [List.map_toArray, List.map_cons, List.map_nil]); first | done | rfl | (simp only [List.length_drop, List.length_take]; rfl)) ?_; (with_reducible refine (plaitingref4_Ends.calls a0 x8_1 t281 t282 _ A5.out).mono ?_); rintro e w' ⟨rfl, ⟨nd, rfl⟩⟩; refine ⟨_, rfl, ?_⟩))
            go_roundg k1
            case measure => have := HK1.out; omega
            case rel => exact ⟨(wrap64 (x8_1 + 1)), (by first | rfl | (simp; done) | (simp [*]; done)), H', ⟨by have := HK1.out; omega⟩, by repeat (first | exact Drawn0.refl _ | apply Drawn0.step)⟩
      · rw [if_neg c4] at H
        have c4b0 : decide (x8_1 < (wrap64 (2 * a0))) = false := decide_eq_false c4
        clear c4
        simp only [Option.some.injEq, Prod.mk.injEq] at H
        obtain ⟨rfl, rfl⟩ := H
        go_wp2
        go_ret2
        exact ⟨by first | rfl | (simp; done) | (simp [*]; done), by repeat (first | exact Drawn0.refl _ | apply Drawn0.step)⟩

end Go.Proofs.Ytkelibikjkgohaa.P
