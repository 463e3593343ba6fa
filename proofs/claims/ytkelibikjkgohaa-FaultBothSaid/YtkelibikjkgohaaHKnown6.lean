/- plaitinglaw6.known: the chapter's example. -/
import Derived.Test.YtkelibikjkgohaaHEmit
import Derived.Test.YtkelibikjkgohaaHMake3
import Derived.Test.YtkelibikjkgohaaF34
namespace Go.Proofs.Ytkelibikjkgohaa.P
set_option linter.unusedVariables false
open Go.RowKit Go.Proofs.YtkelibikjkgohaaW.PrintWords Go.Proofs.YtkelibikjkgohaaW.PrintLast Go.Proofs.YtkelibikjkgohaaW.PrintMore

theorem within6_calls (n m : Int) (w : World) (hm : 1 ≤ m ∧ m ≤ 4611686018427387904) :
    Calls Try.prog 34 #[.int .i64 n, .int .i64 m] w fun e w' => e = .returned (.int .i64 (n % m)) ∧ ∃ k, w' = w.drewN k :=
  (plaitinglaw6_within.calls n m (n % m) w (within_eq _ _ hm)).mono fun e w' ⟨h1, h2⟩ => ⟨h1, h2.out⟩

set_option maxRecDepth 100000 in
theorem check_kind9 (c0 c1 c2 c3 c4 : Int) (A0 : Option Addr) (n0 cp0 : Nat) (f1 f2 f3 : Int) (A4 : Option Addr) (n4 cp4 : Nat) (A5 : Option Addr) (n5 cp5 : Nat) (w : World) :
    Calls Try.prog 32 #[.agg #[.int .i64 c0, .int .i64 c1, .int .i64 c2, .int .i64 c3, .int .i64 c4, .slice A0 n0 cp0], .agg #[.int .i64 9, .int .i64 f1, .int .i64 f2, .int .i64 f3, .slice A4 n4 cp4, .slice A5 n5 cp5]] w fun e w' => e = .returned (.int .i64 6) ∧ Below w.heap.size w w' := by
  go_enter Try.func32, Try.ntmps32
  go_wp2
  go_ret
  exact ⟨rfl, by repeat (first | exact Below.refl _ _ | apply below_alloc)⟩

set_option maxRecDepth 100000 in
set_option maxHeartbeats 4000000 in
theorem known6_calls (w : World) : Calls Try.prog 29 #[] w fun e w' => e = .returned (.bool true) ∧ Below w.heap.size w w' := by
  have HE : Hid (∀ W : World, Calls Try.prog 38 #[.agg #[.int .i64 6, .int .i64 4, .int .i64 0, .int .i64 0, .int .i64 0, .slice none 0 0], .agg #[.int .i64 0, .int .i64 0, .int .i64 0, .int .i64 0, .slice none 0 0, .slice none 0 0], .int .i64 0, .int .i64 0, .int .i64 0, .int .i64 1, .string ⟨#[48, 49]⟩] W fun e w' => e = .returned (.string ⟨#[48, 49]⟩) ∧ Below W.heap.size W w') := Lib.hid (fun W => emit_off ⟨6, 4, 0, 0, 0, []⟩ none 0 ⟨0, 0, 0, 0, [], []⟩ none 0 none 0 0 0 0 1 ⟨#[48, 49]⟩ W (by decide) (Kd.C_nil _ W) (by simp) (fun h => absurd h (by decide)) (by decide))
  have HR : Hid (∀ W : World, Calls Try.prog 42 #[.agg #[.int .i64 6, .int .i64 4, .int .i64 0, .int .i64 0, .int .i64 0, .slice none 0 0], .agg #[.int .i64 0, .int .i64 0, .int .i64 0, .int .i64 0, .slice none 0 0, .slice none 0 0], .int .i64 0, .int .i64 0] W fun e w' => e = .returned (.bool true) ∧ Below W.heap.size W w') := Lib.hid (fun W => right_any 6 4 0 0 0 none 0 0 0 0 0 0 none 0 0 none 0 0 0 0 W)
  go_enter Try.func29, Try.ntmps29
  go_wp2_with (first | (go_at_call 38; (with_reducible refine (HE.out _).mono ?_); rintro e w1 ⟨rfl, hb⟩; have B1 := Lib.hid (below_step (below_alloc (Below.refl _ _) _) hb); have z0 : w1.cell? ⟨w.heap.size, 0, none⟩ = some (.int .i64 6) := (hb.cell (p := ⟨w.heap.size, 0, none⟩) (by simp)).trans (by go_simp); have z1 : w1.cell? ⟨w.heap.size, 1, none⟩ = some (.int .i64 4) := (hb.cell (p := ⟨w.heap.size, 1, none⟩) (by simp)).trans (by go_simp); have z2 : w1.cell? ⟨w.heap.size, 2, none⟩ = some (.int .i64 0) := (hb.cell (p := ⟨w.heap.size, 2, none⟩) (by simp)).trans (by go_simp); have z3 : w1.cell? ⟨w.heap.size, 3, none⟩ = some (.int .i64 0) := (hb.cell (p := ⟨w.heap.size, 3, none⟩) (by simp)).trans (by go_simp); have z4 : w1.cell? ⟨w.heap.size, 4, none⟩ = some (.int .i64 0) := (hb.cell (p := ⟨w.heap.size, 4, none⟩) (by simp)).trans (by go_simp); have z5 : w1.cell? ⟨w.heap.size, 5, none⟩ = some (.slice none 0 0) := (hb.cell (p := ⟨w.heap.size, 5, none⟩) (by simp)).trans (by go_simp); clear hb) | (go_at_call 42; (with_reducible refine (HR.out _).mono ?_); rintro e w2 ⟨rfl, hb⟩; have B2 := Lib.hid (below_step B1.out hb); have y0 := pw_cell_below hb z0; have y1 := pw_cell_below hb z1; have y2 := pw_cell_below hb z2; have y3 := pw_cell_below hb z3; have y4 := pw_cell_below hb z4; have y5 := pw_cell_below hb z5; clear z0 z1 z2 z3 z4 z5 hb) | (go_at_call 32; (with_reducible refine (check_kind9 _ _ _ _ _ _ _ _ _ _ _ _ _ _ _ _ _ _).mono ?_); rintro e w3 ⟨rfl, hb⟩; have B3 := Lib.hid (below_step B2.out hb); clear hb))
  go_ret
  exact ⟨rfl, B3.out⟩
end Go.Proofs.Ytkelibikjkgohaa.P
