-- printed by wip/tools/plug.py out of the translation; Lean checks it
import Derived.Test.YtkelibikjkgohaaK
namespace Go.Proofs.Ytkelibikjkgohaa.P
open Go.RowKit Go.Proofs.YtkelibikjkgohaaW.PrintWords Go.Proofs.YtkelibikjkgohaaW.PrintLast Go.Proofs.YtkelibikjkgohaaW.PrintMore
attribute [local go_sem] max2_int min2_int max_two min_two max_three min_three max_four min_four
set_option linter.unusedVariables false
set_option linter.unusedSimpArgs false
/-! ### conf_Slots: function 120 -/
def conf_Slots.f (a0_0 : Int) (a0_1 : Int) (a0_2 : Int) (a0_3 : Int) (a0_4 : Int) (l0_5 : List Int) : Option (Int) := some (wrap64 (a0_0 + (l0_5.length : Int)))
set_option maxHeartbeats 8000000 in
set_option maxRecDepth 100000 in
theorem conf_Slots.calls (a0_0 : Int) (a0_1 : Int) (a0_2 : Int) (a0_3 : Int) (a0_4 : Int) (A0_5 : Option Addr) (c0_5 : Nat) (l0_5 : List Int) (r : Int) (w : World) (hr0_5 : Kd.C (Kd.int .i64) w A0_5 l0_5.length l0_5) (hc0_5 : l0_5.length ≤ c0_5) (h : conf_Slots.f a0_0 a0_1 a0_2 a0_3 a0_4 l0_5 = some r) :
    Calls Try.prog 120 #[.agg #[.int .i64 a0_0, .int .i64 a0_1, .int .i64 a0_2, .int .i64 a0_3, .int .i64 a0_4, .slice A0_5 l0_5.length c0_5]] w fun e w' => e = .returned (.int .i64 r) ∧ Below w.heap.size w w' := by
  have hu24 := Try.underlying24
  have HR0_5 := Aside0.mk hr0_5
  have HC0_5 := Aside0.mk hc0_5
  clear hr0_5 hc0_5
  have HB := Aside0.mk (Below.refl w.heap.size w)
  have H : (some (wrap64 (a0_0 + (l0_5.length : Int)))) = some r := h
  clear h
  obtain rfl := Option.some.inj H
  go_enter Try.func120, Try.ntmps120
  go_wp2_with (first | ((with_reducible refine gate_dst (N := 1) rfl ?_); refine box_event ?hg (N := 1) ?hd (cs := #[.int .i64 a0_0, .int .i64 a0_1, .int .i64 a0_2, .int .i64 a0_3, .int .i64 a0_4, .slice A0_5 l0_5.length c0_5]) (t := 24) ?hr ?_; (case hd => rfl); (case hg => rfl); (case hr => first | (go_simp; done) | (go_simp; rfl)); intro gb125 hg w2 hbox hb; have n0_ := Aside0.mk (below_step (by repeat (first | (with_reducible first | exact HB.out | apply below_alloc | apply pw_below_drewN | apply below_drew1) | exact HB.out)) hb); have n1_ := Aside0.mk (hbox); have n2_ := Aside0.mk ((by rw [hg]; exact (below_size (by repeat (first | (with_reducible first | exact HB.out | apply below_alloc | apply pw_below_drewN | apply below_drew1) | exact HB.out))) : w.heap.size ≤ gb125)); have n3_ := Aside0.mk ((by rw [hg]; exact (below_size (by repeat (first | (with_reducible first | exact HB.out | apply below_alloc | apply pw_below_drewN | apply below_drew1) | exact HB.out))) : w.heap.size ≤ gb125)); clear HB; have HB := n0_; have BK125 := n1_; have GW125 := n2_; have GE125 := n3_; clear n0_ n1_ n2_ n3_; clear hb hbox hg; have hcz3_0 : w2.cell? ⟨gb125, 0, none⟩ = some (.int .i64 a0_0) := (blk_cell BK125.out 0).trans rfl; have hcz3_1 : w2.cell? ⟨gb125, 1, none⟩ = some (.int .i64 a0_1) := (blk_cell BK125.out 1).trans rfl; have hcz3_2 : w2.cell? ⟨gb125, 2, none⟩ = some (.int .i64 a0_2) := (blk_cell BK125.out 2).trans rfl; have hcz3_3 : w2.cell? ⟨gb125, 3, none⟩ = some (.int .i64 a0_3) := (blk_cell BK125.out 3).trans rfl; have hcz3_4 : w2.cell? ⟨gb125, 4, none⟩ = some (.int .i64 a0_4) := (blk_cell BK125.out 4).trans rfl; have hcz3_5 : w2.cell? ⟨gb125, 5, none⟩ = some (.slice A0_5 l0_5.length c0_5) := (blk_cell BK125.out 5).trans rfl; have hfz3_0 := blk_frozen BK125.out 0; have hfz3_1 := blk_frozen BK125.out 1; have hfz3_2 := blk_frozen BK125.out 2; have hfz3_3 := blk_frozen BK125.out 3; have hfz3_4 := blk_frozen BK125.out 4; have hfz3_5 := blk_frozen BK125.out 5))
  go_ret
  exact ⟨by first | rfl | (simp [errW_none, errW_some] <;> rfl) | (simp [*, errW_none, errW_some] <;> rfl), by repeat (first | (with_reducible first | exact HB.out | apply below_alloc | apply pw_below_drewN | apply below_drew1 | refine below_set ?_ GE125.out) | exact HB.out)⟩

end Go.Proofs.Ytkelibikjkgohaa.P
