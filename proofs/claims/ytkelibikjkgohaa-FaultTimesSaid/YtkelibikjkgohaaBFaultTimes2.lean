/- Texts for the law FaultTimes, put together by wip/tools/merge.py: F22, F37, F50, HMake3, F34, HKnown6, F82, F44, F83, F46, HText1. -/
import Derived.Test.YtkelibikjkgohaaBFaultTimes1
namespace Go.Proofs.Ytkelibikjkgohaa.P
open Go.RowKit Go.Proofs.YtkelibikjkgohaaW.PrintWords Go.Proofs.YtkelibikjkgohaaW.PrintLast Go.Proofs.YtkelibikjkgohaaW.PrintMore
attribute [local go_sem] max2_int min2_int max_two min_two max_three min_three max_four min_four
set_option linter.unusedVariables false
set_option linter.unusedSimpArgs false
/-! ### plaitinglaw3_Make: function 22 -/
mutual
def plaitinglaw3_Make.j0 : Nat → Int → Int → Int → Int → Int → List Int → Int → Int → Int → Int → Int → Option (Int × Int × Int × Int × Int × List Int)
  | 0, _, _, _, _, _, _, _, _, _, _, _ => none
  | k + 1, x2000, x2001, x2002, x2003, x2004, x2005, x8000, x8001, x8002, x8003, x8004 => (plaitinglaw3_within.f x2001 100).bind fun t10 => (plaitinglaw3_Make.l0 k 0 x2000 x2001 x2002 x2003 x2004 x2005 x8000 (wrap64 ((wrap64 (4 * (wrap64 ((wrap64 (x8002 + x8003)) + 1)))) + t10)) x8002 x8003 x8004 ([] : List Int))
def plaitinglaw3_Make.l0 : Nat → Int → Int → Int → Int → Int → Int → List Int → Int → Int → Int → Int → Int → List Int → Option (Int × Int × Int × Int × Int × List Int)
  | 0, _, _, _, _, _, _, _, _, _, _, _, _, _ => none
  | k + 1, x4, x2000, x2001, x2002, x2003, x2004, x2005, x8000, x8001, x8002, x8003, x8004, x8005 => if x4 < (x2005.length : Int) then (if x4 < 3 then (if 0 ≤ x4 then ((plaitinglaw3_within.f (rd x2005 x4) (wrap64 (x8000 + 1))).bind fun t12 => (if x8005.length < 17592186044416 then (plaitinglaw3_Make.l0 k (wrap64 (x4 + 1)) x2000 x2001 x2002 x2003 x2004 x2005 x8000 x8001 x8002 x8003 x8004 (x8005 ++ [wrap64 (t12 - 1)])) else (none))) else (none)) else (some (x8000, x8001, x8002, x8003, x8004, x8005))) else (some (x8000, x8001, x8002, x8003, x8004, x8005))
end
def plaitinglaw3_Make.f (k : Nat) (a0_0 : Int) (a0_1 : Int) (a0_2 : Int) (a0_3 : Int) (a0_4 : Int) (l0_5 : List Int) : Option (Int × Int × Int × Int × Int × List Int) := (plaitinglaw3_within.f a0_0 7).bind fun t3 => ((plaitinglaw3_within.f a0_2 21).bind fun t4 => ((plaitinglaw3_within.f a0_3 21).bind fun t5 => ((plaitinglaw3_within.f a0_4 65536).bind fun t6 => ((plaitinglaw3_within.f a0_4 3).bind fun t8 => (if t8 = 0 then ((plaitinglaw3_within.f a0_4 40).bind fun t9 => (plaitinglaw3_Make.j0 k a0_0 a0_1 a0_2 a0_3 a0_4 l0_5 (wrap64 (6 + t3)) 0 t4 t5 (wrap64 (65535 - t9)))) else (plaitinglaw3_Make.j0 k a0_0 a0_1 a0_2 a0_3 a0_4 l0_5 (wrap64 (6 + t3)) 0 t4 t5 t6))))))
theorem plaitinglaw3_Make.mono_l : ∀ k, (∀ y0 y1 y2 y3 y4 y5 y6 y7 y8 y9 y10, LeO (plaitinglaw3_Make.j0 k y0 y1 y2 y3 y4 y5 y6 y7 y8 y9 y10) (plaitinglaw3_Make.j0 (k + 1) y0 y1 y2 y3 y4 y5 y6 y7 y8 y9 y10)) ∧ (∀ y0 y1 y2 y3 y4 y5 y6 y7 y8 y9 y10 y11 y12, LeO (plaitinglaw3_Make.l0 k y0 y1 y2 y3 y4 y5 y6 y7 y8 y9 y10 y11 y12) (plaitinglaw3_Make.l0 (k + 1) y0 y1 y2 y3 y4 y5 y6 y7 y8 y9 y10 y11 y12))
  | 0 => ⟨fun _ _ _ _ _ _ _ _ _ _ _ r h => by simp [plaitinglaw3_Make.j0] at h, fun _ _ _ _ _ _ _ _ _ _ _ _ _ r h => by simp [plaitinglaw3_Make.l0] at h⟩
  | k + 1 => by
    obtain ⟨ih0, ih1⟩ := plaitinglaw3_Make.mono_l k
    refine ⟨?_, ?_⟩
    · intro y0 y1 y2 y3 y4 y5 y6 y7 y8 y9 y10
      unfold plaitinglaw3_Make.j0
      repeat' first
      | (with_reducible exact ih0 _ _ _ _ _ _ _ _ _ _ _)
      | (with_reducible exact ih1 _ _ _ _ _ _ _ _ _ _ _ _ _)
      | (with_reducible exact LeO.refl _)
      | (with_reducible exact LeO.none _)
      | (with_reducible refine LeO.ite ?_ ?_)
      | (with_reducible refine LeO.bind ?_ (fun _ => ?_))
      | exact ih0 _ _ _ _ _ _ _ _ _ _ _
      | exact ih1 _ _ _ _ _ _ _ _ _ _ _ _ _
      | exact LeO.none _
      | refine LeO.ite ?_ ?_
      | refine LeO.bind ?_ (fun _ => ?_)
    · intro y0 y1 y2 y3 y4 y5 y6 y7 y8 y9 y10 y11 y12
      unfold plaitinglaw3_Make.l0
      repeat' first
      | (with_reducible exact ih0 _ _ _ _ _ _ _ _ _ _ _)
      | (with_reducible exact ih1 _ _ _ _ _ _ _ _ _ _ _ _ _)
      | (with_reducible exact LeO.refl _)
      | (with_reducible exact LeO.none _)
      | (with_reducible refine LeO.ite ?_ ?_)
      | (with_reducible refine LeO.bind ?_ (fun _ => ?_))
      | exact ih0 _ _ _ _ _ _ _ _ _ _ _
      | exact ih1 _ _ _ _ _ _ _ _ _ _ _ _ _
      | exact LeO.none _
      | refine LeO.ite ?_ ?_
      | refine LeO.bind ?_ (fun _ => ?_)
theorem plaitinglaw3_Make.mono : ∀ a0 a1 a2 a3 a4 a5 k, LeO (plaitinglaw3_Make.f k a0 a1 a2 a3 a4 a5) (plaitinglaw3_Make.f (k + 1) a0 a1 a2 a3 a4 a5) := by
  intro a0 a1 a2 a3 a4 a5 k
  obtain ⟨ih0, ih1⟩ := plaitinglaw3_Make.mono_l k
  unfold plaitinglaw3_Make.f
  repeat' first
      | (with_reducible exact ih0 _ _ _ _ _ _ _ _ _ _ _)
      | (with_reducible exact ih1 _ _ _ _ _ _ _ _ _ _ _ _ _)
      | (with_reducible exact LeO.refl _)
      | (with_reducible exact LeO.none _)
      | (with_reducible refine LeO.ite ?_ ?_)
      | (with_reducible refine LeO.bind ?_ (fun _ => ?_))
      | exact ih0 _ _ _ _ _ _ _ _ _ _ _
      | exact ih1 _ _ _ _ _ _ _ _ _ _ _ _ _
      | exact LeO.none _
      | refine LeO.ite ?_ ?_
      | refine LeO.bind ?_ (fun _ => ?_)
def plaitinglaw3_Make.T1 : Bool × List (List Nat × List Nat) := (true, [([], []), ([0], [0]), ([1], [1]), ([2], [2]), ([], []), ([4], [4]), ([5, 2], [5]), ([], []), ([7], [7]), ([8, 6], [8]), ([], []), ([10], [10]), ([11, 9], [11]), ([3, 6, 9, 12], [3, 6, 9, 12]), ([], []), ([14, 13, 12, 0, 1, 2, 3, 4, 5, 6, 7, 8, 9, 10, 11, 12, 13, 14], [13, 14])])
def plaitinglaw3_Make.B1 : List Nat := [0, 1, 3, 7, 0, 16, 55, 0, 128, 503, 0, 1024, 4087, 8191, 0, 32767]
theorem plaitinglaw3_Make.tab1 : rtab .any (opsOf Try.f22 1) = plaitinglaw3_Make.T1 := by kernel_rfl
theorem plaitinglaw3_Make.bits1 : waitsOk plaitinglaw3_Make.T1.2 plaitinglaw3_Make.B1 = true := by kernel_rfl
def plaitinglaw3_Make.T4 : Bool × List (List Nat × List Nat) := (true, [([], []), ([0], [0]), ([], []), ([2], [2]), ([1, 3], [1, 3]), ([4], [4]), ([5], [5]), ([], []), ([7], [7]), ([8], [8]), ([6, 9], [6, 9]), ([0, 1, 2, 3, 4, 5, 6, 7, 8, 9, 10], []), ([11, 10, 9, 0, 1, 2, 3, 4, 5, 6, 7, 8, 9, 10], [10, 11])])
def plaitinglaw3_Make.B4 : List Nat := [0, 1, 0, 4, 15, 31, 63, 0, 128, 384, 1023, 2047, 4095]
theorem plaitinglaw3_Make.tab4 : rtab .any (opsOf Try.f22 4) = plaitinglaw3_Make.T4 := by kernel_rfl
theorem plaitinglaw3_Make.bits4 : waitsOk plaitinglaw3_Make.T4.2 plaitinglaw3_Make.B4 = true := by kernel_rfl
def plaitinglaw3_Make.T8 : Bool × List (List Nat × List Nat) := (true, [([], []), ([0], [0]), ([], []), ([2], [2]), ([], []), ([3, 4], [3, 4]), ([5], [5]), ([], []), ([7], [7]), ([8], [8]), ([6, 9], [6, 9]), ([10], [10]), ([11], [11]), ([1, 12, 10], [1, 12]), ([0, 1, 2, 3, 4, 5, 6, 7, 8, 9, 10, 11, 12, 13], []), ([14, 13, 13, 0, 1, 2, 3, 4, 5, 6, 7, 8, 9, 10, 11, 12, 13], [13, 14])])
def plaitinglaw3_Make.B8 : List Nat := [0, 1, 0, 4, 0, 28, 60, 0, 128, 384, 1020, 2044, 4092, 8191, 16383, 32767]
theorem plaitinglaw3_Make.tab8 : rtab .any (opsOf Try.f22 8) = plaitinglaw3_Make.T8 := by kernel_rfl
theorem plaitinglaw3_Make.bits8 : waitsOk plaitinglaw3_Make.T8.2 plaitinglaw3_Make.B8 = true := by kernel_rfl
set_option maxHeartbeats 8000000 in
set_option maxRecDepth 100000 in
theorem plaitinglaw3_Make.calls (k : Nat) (a0_0 : Int) (a0_1 : Int) (a0_2 : Int) (a0_3 : Int) (a0_4 : Int) (A0_5 : Option Addr) (c0_5 : Nat) (l0_5 : List Int) (r1 : Int) (r2 : Int) (r3 : Int) (r4 : Int) (r5 : Int) (r6 : List Int) (w : World) (hr0_5 : Kd.C (Kd.int .i64) w A0_5 l0_5.length l0_5) (hc0_5 : l0_5.length ≤ c0_5) (h : plaitinglaw3_Make.f k a0_0 a0_1 a0_2 a0_3 a0_4 l0_5 = some (r1, r2, r3, r4, r5, r6)) :
    Calls Try.prog 22 #[.agg #[.int .i64 a0_0, .int .i64 a0_1, .int .i64 a0_2, .int .i64 a0_3, .int .i64 a0_4, .slice A0_5 l0_5.length c0_5]] w fun e w' => ∃ v5_ : Value, e = .returned (.agg #[.int .i64 r1, .int .i64 r2, .int .i64 r3, .int .i64 r4, .int .i64 r5, v5_]) ∧ Kd.R (Kd.int .i64) 3 w' w.heap.size (fun _ => True) v5_ r6 ∧ Below w.heap.size w w' := by
  have hu24 := Try.underlying24
  have HR0_5 := Aside0.mk hr0_5
  have HC0_5 := Aside0.mk hc0_5
  clear hr0_5 hc0_5
  have HB := Aside0.mk (Below.refl w.heap.size w)
  have H : ((plaitinglaw3_within.f a0_0 7).bind fun t3 => ((plaitinglaw3_within.f a0_2 21).bind fun t4 => ((plaitinglaw3_within.f a0_3 21).bind fun t5 => ((plaitinglaw3_within.f a0_4 65536).bind fun t6 => ((plaitinglaw3_within.f a0_4 3).bind fun t8 => (if t8 = 0 then ((plaitinglaw3_within.f a0_4 40).bind fun t9 => (plaitinglaw3_Make.j0 k a0_0 a0_1 a0_2 a0_3 a0_4 l0_5 (wrap64 (6 + t3)) 0 t4 t5 (wrap64 (65535 - t9)))) else (plaitinglaw3_Make.j0 k a0_0 a0_1 a0_2 a0_3 a0_4 l0_5 (wrap64 (6 + t3)) 0 t4 t5 t6))))))) = some (r1, r2, r3, r4, r5, r6) := h
  clear h
  replace H := Option.bind_eq_some_iff.mp H
  obtain ⟨t3, A20, H⟩ := H
  replace H : ((plaitinglaw3_within.f a0_2 21).bind fun t4 => ((plaitinglaw3_within.f a0_3 21).bind fun t5 => ((plaitinglaw3_within.f a0_4 65536).bind fun t6 => ((plaitinglaw3_within.f a0_4 3).bind fun t8 => (if t8 = 0 then ((plaitinglaw3_within.f a0_4 40).bind fun t9 => (plaitinglaw3_Make.j0 k a0_0 a0_1 a0_2 a0_3 a0_4 l0_5 (wrap64 (6 + t3)) 0 t4 t5 (wrap64 (65535 - t9)))) else (plaitinglaw3_Make.j0 k a0_0 a0_1 a0_2 a0_3 a0_4 l0_5 (wrap64 (6 + t3)) 0 t4 t5 t6)))))) = some (r1, r2, r3, r4, r5, r6) := H
  have A2 := Aside0.mk A20
  clear A20
  replace H := Option.bind_eq_some_iff.mp H
  obtain ⟨t4, A30, H⟩ := H
  replace H : ((plaitinglaw3_within.f a0_3 21).bind fun t5 => ((plaitinglaw3_within.f a0_4 65536).bind fun t6 => ((plaitinglaw3_within.f a0_4 3).bind fun t8 => (if t8 = 0 then ((plaitinglaw3_within.f a0_4 40).bind fun t9 => (plaitinglaw3_Make.j0 k a0_0 a0_1 a0_2 a0_3 a0_4 l0_5 (wrap64 (6 + t3)) 0 t4 t5 (wrap64 (65535 - t9)))) else (plaitinglaw3_Make.j0 k a0_0 a0_1 a0_2 a0_3 a0_4 l0_5 (wrap64 (6 + t3)) 0 t4 t5 t6))))) = some (r1, r2, r3, r4, r5, r6) := H
  have A3 := Aside0.mk A30
  clear A30
  replace H := Option.bind_eq_some_iff.mp H
  obtain ⟨t5, A40, H⟩ := H
  replace H : ((plaitinglaw3_within.f a0_4 65536).bind fun t6 => ((plaitinglaw3_within.f a0_4 3).bind fun t8 => (if t8 = 0 then ((plaitinglaw3_within.f a0_4 40).bind fun t9 => (plaitinglaw3_Make.j0 k a0_0 a0_1 a0_2 a0_3 a0_4 l0_5 (wrap64 (6 + t3)) 0 t4 t5 (wrap64 (65535 - t9)))) else (plaitinglaw3_Make.j0 k a0_0 a0_1 a0_2 a0_3 a0_4 l0_5 (wrap64 (6 + t3)) 0 t4 t5 t6)))) = some (r1, r2, r3, r4, r5, r6) := H
  have A4 := Aside0.mk A40
  clear A40
  replace H := Option.bind_eq_some_iff.mp H
  obtain ⟨t6, A50, H⟩ := H
  replace H : ((plaitinglaw3_within.f a0_4 3).bind fun t8 => (if t8 = 0 then ((plaitinglaw3_within.f a0_4 40).bind fun t9 => (plaitinglaw3_Make.j0 k a0_0 a0_1 a0_2 a0_3 a0_4 l0_5 (wrap64 (6 + t3)) 0 t4 t5 (wrap64 (65535 - t9)))) else (plaitinglaw3_Make.j0 k a0_0 a0_1 a0_2 a0_3 a0_4 l0_5 (wrap64 (6 + t3)) 0 t4 t5 t6))) = some (r1, r2, r3, r4, r5, r6) := H
  have A5 := Aside0.mk A50
  clear A50
  replace H := Option.bind_eq_some_iff.mp H
  obtain ⟨t8, A60, H⟩ := H
  replace H : (if t8 = 0 then ((plaitinglaw3_within.f a0_4 40).bind fun t9 => (plaitinglaw3_Make.j0 k a0_0 a0_1 a0_2 a0_3 a0_4 l0_5 (wrap64 (6 + t3)) 0 t4 t5 (wrap64 (65535 - t9)))) else (plaitinglaw3_Make.j0 k a0_0 a0_1 a0_2 a0_3 a0_4 l0_5 (wrap64 (6 + t3)) 0 t4 t5 t6)) = some (r1, r2, r3, r4, r5, r6) := H
  have A6 := Aside0.mk A60
  clear A60
  have HC7 := Aside0.mk H
  clear H
  go_enter Try.func22, Try.ntmps22
  try go_wp2_with (first | ((with_reducible refine gate_dst (N := 1) rfl ?_); refine box_event ?hg (N := 1) ?hd (cs := #[.int .i64 a0_0, .int .i64 a0_1, .int .i64 a0_2, .int .i64 a0_3, .int .i64 a0_4, .slice A0_5 l0_5.length c0_5]) (t := 24) ?hr ?_; (case hd => rfl); (case hg => rfl); (case hr => first | (go_simp; done) | (go_simp; rfl)); intro gb1 hg w8 hbox hb; have n0_ := Aside0.mk (below_step (by repeat (first | (with_reducible first | exact HB.out | apply below_alloc | apply pw_below_drewN | apply below_drew1) | exact HB.out)) hb); have n1_ := Aside0.mk (hbox); have n2_ := Aside0.mk ((by rw [hg]; exact (below_size (by repeat (first | (with_reducible first | exact HB.out | apply below_alloc | apply pw_below_drewN | apply below_drew1) | exact HB.out))) : w.heap.size ≤ gb1)); have n3_ := Aside0.mk ((by rw [hg]; exact (below_size (by repeat (first | (with_reducible first | exact HB.out | apply below_alloc | apply pw_below_drewN | apply below_drew1) | exact HB.out))) : w.heap.size ≤ gb1)); clear HB; have HB := n0_; have BK1 := n1_; have GW1 := n2_; have GE1 := n3_; clear n0_ n1_ n2_ n3_; clear hb hbox hg) | ((with_reducible refine gate_dst (N := 2) rfl ?_); refine box_event ?hg (N := 2) ?hd (cs := #[.int .i64 0, .int .i64 0, .int .i64 0, .int .i64 0, .int .i64 0, .slice none 0 0]) (t := 24) ?hr ?_; (case hd => rfl); (case hg => rfl); (case hr => first | (go_simp; done) | (go_simp; rfl)); intro gb2 hg w9 hbox hb; have n0_ := Aside0.mk (blk_below (g := gb1) (o := .cells #[.int .i64 a0_0, .int .i64 a0_1, .int .i64 a0_2, .int .i64 a0_3, .int .i64 a0_4, .slice A0_5 l0_5.length c0_5] 24 (0, 0)) (by (with_reducible repeat (first | refine blk_drewN ?_ _ | refine blk_drew ?_ | refine blk_alloc ?_ _)); exact BK1.out) hb); have n1_ := Aside0.mk (below_step (by repeat (first | (with_reducible first | exact HB.out | apply below_alloc | apply pw_below_drewN | apply below_drew1 | refine below_set ?_ GE1.out) | exact HB.out)) hb); have n2_ := Aside0.mk (hbox); have n3_ := Aside0.mk ((by rw [hg]; exact (below_size (by repeat (first | (with_reducible first | exact HB.out | apply below_alloc | apply pw_below_drewN | apply below_drew1 | refine below_set ?_ GE1.out) | exact HB.out))) : w.heap.size ≤ gb2)); have n4_ := Aside0.mk ((by rw [hg]; exact (below_size (by repeat (first | (with_reducible first | exact HB.out | apply below_alloc | apply pw_below_drewN | apply below_drew1 | refine below_set ?_ GE1.out) | exact HB.out))) : w.heap.size ≤ gb2)); have n5_ := Aside0.mk ((by rw [hg]; exact Nat.ne_of_lt (blk_lt (g := gb1) (o := .cells #[.int .i64 a0_0, .int .i64 a0_1, .int .i64 a0_2, .int .i64 a0_3, .int .i64 a0_4, .slice A0_5 l0_5.length c0_5] 24 (0, 0)) (by (with_reducible repeat (first | refine blk_drewN ?_ _ | refine blk_drew ?_ | refine blk_alloc ?_ _)); exact BK1.out)) : gb1 ≠ gb2)); have n6_ := Aside0.mk ((by rw [hg]; exact Nat.ne_of_gt (blk_lt (g := gb1) (o := .cells #[.int .i64 a0_0, .int .i64 a0_1, .int .i64 a0_2, .int .i64 a0_3, .int .i64 a0_4, .slice A0_5 l0_5.length c0_5] 24 (0, 0)) (by (with_reducible repeat (first | refine blk_drewN ?_ _ | refine blk_drew ?_ | refine blk_alloc ?_ _)); exact BK1.out)) : gb2 ≠ gb1)); clear BK1; clear HB; have BK1 := n0_; have HB := n1_; have BK2 := n2_; have GW2 := n3_; have GE2 := n4_; have NB1_2 := n5_; have NB2_1 := n6_; clear n0_ n1_ n2_ n3_ n4_ n5_ n6_; clear hb hbox hg))
  have n0_ := Aside0.mk (blk_drew BK1.out)
  have n1_ := Aside0.mk (blk_drew BK2.out)
  have n2_ := Aside0.mk (below_drew1 HB.out)
  clear BK1
  clear BK2
  clear HB
  have BK1 := n0_
  have BK2 := n1_
  have HB := n2_
  clear n0_ n1_ n2_
  refine start_ (n := 16) (S := fun w' => w'.cell? ⟨gb1, 0, none⟩ = some (.int .i64 a0_0) ∧ w'.cell? ⟨gb1, 1, none⟩ = some (.int .i64 a0_1) ∧ w'.cell? ⟨gb1, 2, none⟩ = some (.int .i64 a0_2) ∧ w'.cell? ⟨gb1, 3, none⟩ = some (.int .i64 a0_3) ∧ w'.cell? ⟨gb1, 4, none⟩ = some (.int .i64 a0_4) ∧ w'.cell? ⟨gb1, 5, none⟩ = some (.slice A0_5 l0_5.length c0_5)) (ds := []) #[false, false, false, false, false, false, false, false, false, false, false, false, false, false, false, false] (by kernel_rfl) rfl rfl ⟨(blk_cell BK1.out 0).trans rfl, (blk_cell BK1.out 1).trans rfl, (blk_cell BK1.out 2).trans rfl, (blk_cell BK1.out 3).trans rfl, (blk_cell BK1.out 4).trans rfl, (blk_cell BK1.out 5).trans rfl⟩ (fun hHeld => ?_); refine with_tabW plaitinglaw3_Make.tab1 plaitinglaw3_Make.bits1 (fun HT_ HW_ => ?_)
  generalize w9.drew = w10 at BK1 BK2 HB hHeld ⊢
  refine pure_ (i := 0) (N := some 5) (v := ?_) (a' := ?_) #[true, false, false, false, false, false, false, false, false, false, false, false, false, false, false, false] rfl rfl (any_of HT_.out (by kernel_rfl)) (fun _ _ _ h => h) (Or.inl ⟨by rfl, ?_⟩) ?_ ?_
  rotate_left
  · intro w'
    go_simp
    with_reducible rfl
  rotate_left
  · simp only [Act.put, List.setIfInBounds_toArray, List.set_cons_zero, List.set_cons_succ, i64_w, i32_w]
    rfl
  refine pure_ (i := 4) (N := some 9) (v := ?_) (a' := ?_) #[true, false, false, false, true, false, false, false, false, false, false, false, false, false, false, false] rfl rfl (any_of HT_.out (by kernel_rfl)) (fun _ _ _ h => h) (Or.inl ⟨by rfl, ?_⟩) ?_ ?_
  rotate_left
  · intro w'
    go_simp
    with_reducible rfl
  rotate_left
  · simp only [Act.put, List.setIfInBounds_toArray, List.set_cons_zero, List.set_cons_succ, i64_w, i32_w]
    rfl
  refine pure_ (i := 7) (N := some 12) (v := ?_) (a' := ?_) #[true, false, false, false, true, false, false, true, false, false, false, false, false, false, false, false] rfl rfl (any_of HT_.out (by kernel_rfl)) (fun _ _ _ h => h) (Or.inl ⟨by rfl, ?_⟩) ?_ ?_
  rotate_left
  · intro w'
    go_simp
    with_reducible rfl
  rotate_left
  · simp only [Act.put, List.setIfInBounds_toArray, List.set_cons_zero, List.set_cons_succ, i64_w, i32_w]
    rfl
  refine pure_ (i := 10) (N := some 15) (v := ?_) (a' := ?_) #[true, false, false, false, true, false, false, true, false, false, true, false, false, false, false, false] rfl rfl (any_of HT_.out (by kernel_rfl)) (fun _ _ _ h => h) (Or.inl ⟨by rfl, ?_⟩) ?_ ?_
  rotate_left
  · intro w'
    go_simp
    with_reducible rfl
  rotate_left
  · simp only [Act.put, List.setIfInBounds_toArray, List.set_cons_zero, List.set_cons_succ, i64_w, i32_w]
    rfl
  refine take_ (i := 1) (N := some 6) (v := ?_) (a' := ?_) #[true, true, false, false, true, false, false, true, false, false, true, false, false, false, false, false] rfl rfl (take_ofW HT_.out HW_.out (by kernel_rfl)) (fun _ _ _ h => h) (Or.inl ⟨by rfl, ?_⟩) hHeld ?_ ?_
  rotate_left
  · rintro w' ⟨s0, s1, s2, s3, s4, s5⟩
    go_simp
    with_reducible rfl
  rotate_left
  · simp only [Act.put, List.setIfInBounds_toArray, List.set_cons_zero, List.set_cons_succ, i64_w, i32_w]
    rfl
  refine take_ (i := 5) (N := some 10) (v := ?_) (a' := ?_) #[true, true, false, false, true, true, false, true, false, false, true, false, false, false, false, false] rfl rfl (take_ofW HT_.out HW_.out (by kernel_rfl)) (fun _ _ _ h => h) (Or.inl ⟨by rfl, ?_⟩) hHeld ?_ ?_
  rotate_left
  · rintro w' ⟨s0, s1, s2, s3, s4, s5⟩
    go_simp
    with_reducible rfl
  rotate_left
  · simp only [Act.put, List.setIfInBounds_toArray, List.set_cons_zero, List.set_cons_succ, i64_w, i32_w]
    rfl
  refine take_ (i := 8) (N := some 13) (v := ?_) (a' := ?_) #[true, true, false, false, true, true, false, true, true, false, true, false, false, false, false, false] rfl rfl (take_ofW HT_.out HW_.out (by kernel_rfl)) (fun _ _ _ h => h) (Or.inl ⟨by rfl, ?_⟩) hHeld ?_ ?_
  rotate_left
  · rintro w' ⟨s0, s1, s2, s3, s4, s5⟩
    go_simp
    with_reducible rfl
  rotate_left
  · simp only [Act.put, List.setIfInBounds_toArray, List.set_cons_zero, List.set_cons_succ, i64_w, i32_w]
    rfl
  refine take_ (i := 11) (N := some 16) (v := ?_) (a' := ?_) #[true, true, false, false, true, true, false, true, true, false, true, true, false, false, false, false] rfl rfl (take_ofW HT_.out HW_.out (by kernel_rfl)) (fun _ _ _ h => h) (Or.inl ⟨by rfl, ?_⟩) hHeld ?_ ?_
  rotate_left
  · rintro w' ⟨s0, s1, s2, s3, s4, s5⟩
    go_simp
    with_reducible rfl
  rotate_left
  · simp only [Act.put, List.setIfInBounds_toArray, List.set_cons_zero, List.set_cons_succ, i64_w, i32_w]
    rfl
  refine join_ (σ := Nat) 1 #[true, true, true, true, true, true, true, true, true, true, true, true, true, true, true, false] (fun s_ => [(7, .int .i64 t3), (11, .int .i64 t4), (14, .int .i64 t5), (17, .int .i64 t6), (3, .pointer (some ⟨s_, 0, none⟩)), (8, .int .i64 (wrap64 (6 + t3))), (18, .agg #[.int .i64 (wrap64 (6 + t3)), .int .i64 0, .int .i64 t4, .int .i64 t5, .int .i64 t6, .slice none 0 0])]) (fun s_ w' => (w'.cell? ⟨gb1, 0, none⟩ = some (.int .i64 a0_0) ∧ w'.cell? ⟨gb1, 1, none⟩ = some (.int .i64 a0_1) ∧ w'.cell? ⟨gb1, 2, none⟩ = some (.int .i64 a0_2) ∧ w'.cell? ⟨gb1, 3, none⟩ = some (.int .i64 a0_3) ∧ w'.cell? ⟨gb1, 4, none⟩ = some (.int .i64 a0_4) ∧ w'.cell? ⟨gb1, 5, none⟩ = some (.slice A0_5 l0_5.length c0_5)) ∧ (w'.heap[gb1]? = some (.cells #[.int .i64 a0_0, .int .i64 a0_1, .int .i64 a0_2, .int .i64 a0_3, .int .i64 a0_4, .slice A0_5 l0_5.length c0_5] 24 (0, 0))) ∧ (w'.heap[gb2]? = some (.cells #[.int .i64 0, .int .i64 0, .int .i64 0, .int .i64 0, .int .i64 0, .slice none 0 0] 24 (0, 0))) ∧ (w'.heap[s_]? = some (.cells #[.int .i64 0, .int .i64 0, .int .i64 0, .int .i64 0, .int .i64 0, .slice none 0 0] 24 (0, 0))) ∧ (w.heap.size ≤ s_) ∧ (w.heap.size ≤ s_) ∧ (gb1 ≠ s_) ∧ (s_ ≠ gb1) ∧ (gb2 ≠ s_) ∧ (s_ ≠ gb2) ∧ (Below w.heap.size w w')) ?_ ?_
  rotate_left
  · intro hJ2_6_9_12_14
    refine join_ (σ := Unit) 2 #[true, true, true, true, true, true, true, true, true, true, true, true, true, true, false, false] (fun s_ => [(7, .int .i64 t3), (11, .int .i64 t4), (14, .int .i64 t5), (17, .int .i64 t6), (8, .int .i64 (wrap64 (6 + t3))), (18, .agg #[.int .i64 (wrap64 (6 + t3)), .int .i64 0, .int .i64 t4, .int .i64 t5, .int .i64 t6, .slice none 0 0])]) (fun s_ w' => (w'.cell? ⟨gb1, 0, none⟩ = some (.int .i64 a0_0) ∧ w'.cell? ⟨gb1, 1, none⟩ = some (.int .i64 a0_1) ∧ w'.cell? ⟨gb1, 2, none⟩ = some (.int .i64 a0_2) ∧ w'.cell? ⟨gb1, 3, none⟩ = some (.int .i64 a0_3) ∧ w'.cell? ⟨gb1, 4, none⟩ = some (.int .i64 a0_4) ∧ w'.cell? ⟨gb1, 5, none⟩ = some (.slice A0_5 l0_5.length c0_5)) ∧ (w'.heap[gb1]? = some (.cells #[.int .i64 a0_0, .int .i64 a0_1, .int .i64 a0_2, .int .i64 a0_3, .int .i64 a0_4, .slice A0_5 l0_5.length c0_5] 24 (0, 0))) ∧ (w'.heap[gb2]? = some (.cells #[.int .i64 0, .int .i64 0, .int .i64 0, .int .i64 0, .int .i64 0, .slice none 0 0] 24 (0, 0))) ∧ (Below w.heap.size w w')) ?_ ?_
    rotate_left
    · intro hJ2_6_9_12
      refine join_ (σ := Nat) 3 #[true, true, true, true, true, true, true, true, true, true, true, true, false, false, true, false] (fun s_ => [(7, .int .i64 t3), (11, .int .i64 t4), (14, .int .i64 t5), (3, .pointer (some ⟨s_, 0, none⟩)), (8, .int .i64 (wrap64 (6 + t3)))]) (fun s_ w' => (w'.cell? ⟨gb1, 0, none⟩ = some (.int .i64 a0_0) ∧ w'.cell? ⟨gb1, 1, none⟩ = some (.int .i64 a0_1) ∧ w'.cell? ⟨gb1, 2, none⟩ = some (.int .i64 a0_2) ∧ w'.cell? ⟨gb1, 3, none⟩ = some (.int .i64 a0_3) ∧ w'.cell? ⟨gb1, 4, none⟩ = some (.int .i64 a0_4) ∧ w'.cell? ⟨gb1, 5, none⟩ = some (.slice A0_5 l0_5.length c0_5)) ∧ (w'.heap[gb1]? = some (.cells #[.int .i64 a0_0, .int .i64 a0_1, .int .i64 a0_2, .int .i64 a0_3, .int .i64 a0_4, .slice A0_5 l0_5.length c0_5] 24 (0, 0))) ∧ (w'.heap[gb2]? = some (.cells #[.int .i64 0, .int .i64 0, .int .i64 0, .int .i64 0, .int .i64 0, .slice none 0 0] 24 (0, 0))) ∧ (w'.heap[s_]? = some (.cells #[.int .i64 0, .int .i64 0, .int .i64 0, .int .i64 0, .int .i64 0, .slice none 0 0] 24 (0, 0))) ∧ (w.heap.size ≤ s_) ∧ (w.heap.size ≤ s_) ∧ (gb1 ≠ s_) ∧ (s_ ≠ gb1) ∧ (gb2 ≠ s_) ∧ (s_ ≠ gb2) ∧ (Below w.heap.size w w')) ?_ ?_
      rotate_left
      · intro hJ2_6_9_14
        refine join_ (σ := Unit) 4 #[true, true, true, true, true, true, true, true, true, true, true, true, false, false, false, false] (fun s_ => [(7, .int .i64 t3), (11, .int .i64 t4), (14, .int .i64 t5), (8, .int .i64 (wrap64 (6 + t3)))]) (fun s_ w' => (w'.cell? ⟨gb1, 0, none⟩ = some (.int .i64 a0_0) ∧ w'.cell? ⟨gb1, 1, none⟩ = some (.int .i64 a0_1) ∧ w'.cell? ⟨gb1, 2, none⟩ = some (.int .i64 a0_2) ∧ w'.cell? ⟨gb1, 3, none⟩ = some (.int .i64 a0_3) ∧ w'.cell? ⟨gb1, 4, none⟩ = some (.int .i64 a0_4) ∧ w'.cell? ⟨gb1, 5, none⟩ = some (.slice A0_5 l0_5.length c0_5)) ∧ (w'.heap[gb1]? = some (.cells #[.int .i64 a0_0, .int .i64 a0_1, .int .i64 a0_2, .int .i64 a0_3, .int .i64 a0_4, .slice A0_5 l0_5.length c0_5] 24 (0, 0))) ∧ (w'.heap[gb2]? = some (.cells #[.int .i64 0, .int .i64 0, .int .i64 0, .int .i64 0, .int .i64 0, .slice none 0 0] 24 (0, 0))) ∧ (Below w.heap.size w w')) ?_ ?_
        rotate_left
        · intro hJ2_6_9
          refine join_ (σ := Nat) 4 #[true, true, true, true, true, true, true, true, true, false, true, true, false, false, true, false] (fun s_ => [(7, .int .i64 t3), (11, .int .i64 t4), (3, .pointer (some ⟨s_, 0, none⟩)), (8, .int .i64 (wrap64 (6 + t3)))]) (fun s_ w' => (w'.cell? ⟨gb1, 0, none⟩ = some (.int .i64 a0_0) ∧ w'.cell? ⟨gb1, 1, none⟩ = some (.int .i64 a0_1) ∧ w'.cell? ⟨gb1, 2, none⟩ = some (.int .i64 a0_2) ∧ w'.cell? ⟨gb1, 3, none⟩ = some (.int .i64 a0_3) ∧ w'.cell? ⟨gb1, 4, none⟩ = some (.int .i64 a0_4) ∧ w'.cell? ⟨gb1, 5, none⟩ = some (.slice A0_5 l0_5.length c0_5)) ∧ (w'.heap[gb1]? = some (.cells #[.int .i64 a0_0, .int .i64 a0_1, .int .i64 a0_2, .int .i64 a0_3, .int .i64 a0_4, .slice A0_5 l0_5.length c0_5] 24 (0, 0))) ∧ (w'.heap[gb2]? = some (.cells #[.int .i64 0, .int .i64 0, .int .i64 0, .int .i64 0, .int .i64 0, .slice none 0 0] 24 (0, 0))) ∧ (w'.heap[s_]? = some (.cells #[.int .i64 0, .int .i64 0, .int .i64 0, .int .i64 0, .int .i64 0, .slice none 0 0] 24 (0, 0))) ∧ (w.heap.size ≤ s_) ∧ (w.heap.size ≤ s_) ∧ (gb1 ≠ s_) ∧ (s_ ≠ gb1) ∧ (gb2 ≠ s_) ∧ (s_ ≠ gb2) ∧ (Below w.heap.size w w')) ?_ ?_
          rotate_left
          · intro hJ2_6_14
            refine join_ (σ := Unit) 5 #[true, true, true, true, true, true, true, true, true, false, true, true, false, false, false, false] (fun s_ => [(7, .int .i64 t3), (11, .int .i64 t4), (8, .int .i64 (wrap64 (6 + t3)))]) (fun s_ w' => (w'.cell? ⟨gb1, 0, none⟩ = some (.int .i64 a0_0) ∧ w'.cell? ⟨gb1, 1, none⟩ = some (.int .i64 a0_1) ∧ w'.cell? ⟨gb1, 2, none⟩ = some (.int .i64 a0_2) ∧ w'.cell? ⟨gb1, 3, none⟩ = some (.int .i64 a0_3) ∧ w'.cell? ⟨gb1, 4, none⟩ = some (.int .i64 a0_4) ∧ w'.cell? ⟨gb1, 5, none⟩ = some (.slice A0_5 l0_5.length c0_5)) ∧ (w'.heap[gb1]? = some (.cells #[.int .i64 a0_0, .int .i64 a0_1, .int .i64 a0_2, .int .i64 a0_3, .int .i64 a0_4, .slice A0_5 l0_5.length c0_5] 24 (0, 0))) ∧ (w'.heap[gb2]? = some (.cells #[.int .i64 0, .int .i64 0, .int .i64 0, .int .i64 0, .int .i64 0, .slice none 0 0] 24 (0, 0))) ∧ (Below w.heap.size w w')) ?_ ?_
            rotate_left
            · intro hJ2_6
              refine join_ (σ := Nat) 5 #[true, true, true, true, true, true, false, true, true, false, true, true, false, false, true, false] (fun s_ => [(7, .int .i64 t3), (3, .pointer (some ⟨s_, 0, none⟩)), (8, .int .i64 (wrap64 (6 + t3)))]) (fun s_ w' => (w'.cell? ⟨gb1, 0, none⟩ = some (.int .i64 a0_0) ∧ w'.cell? ⟨gb1, 1, none⟩ = some (.int .i64 a0_1) ∧ w'.cell? ⟨gb1, 2, none⟩ = some (.int .i64 a0_2) ∧ w'.cell? ⟨gb1, 3, none⟩ = some (.int .i64 a0_3) ∧ w'.cell? ⟨gb1, 4, none⟩ = some (.int .i64 a0_4) ∧ w'.cell? ⟨gb1, 5, none⟩ = some (.slice A0_5 l0_5.length c0_5)) ∧ (w'.heap[gb1]? = some (.cells #[.int .i64 a0_0, .int .i64 a0_1, .int .i64 a0_2, .int .i64 a0_3, .int .i64 a0_4, .slice A0_5 l0_5.length c0_5] 24 (0, 0))) ∧ (w'.heap[gb2]? = some (.cells #[.int .i64 0, .int .i64 0, .int .i64 0, .int .i64 0, .int .i64 0, .slice none 0 0] 24 (0, 0))) ∧ (w'.heap[s_]? = some (.cells #[.int .i64 0, .int .i64 0, .int .i64 0, .int .i64 0, .int .i64 0, .slice none 0 0] 24 (0, 0))) ∧ (w.heap.size ≤ s_) ∧ (w.heap.size ≤ s_) ∧ (gb1 ≠ s_) ∧ (s_ ≠ gb1) ∧ (gb2 ≠ s_) ∧ (s_ ≠ gb2) ∧ (Below w.heap.size w w')) ?_ ?_
              rotate_left
              · intro hJ2_14
                refine join_ (σ := Unit) 6 #[true, true, true, true, true, true, false, true, true, false, true, true, false, false, false, false] (fun s_ => [(7, .int .i64 t3), (8, .int .i64 (wrap64 (6 + t3)))]) (fun s_ w' => (w'.cell? ⟨gb1, 0, none⟩ = some (.int .i64 a0_0) ∧ w'.cell? ⟨gb1, 1, none⟩ = some (.int .i64 a0_1) ∧ w'.cell? ⟨gb1, 2, none⟩ = some (.int .i64 a0_2) ∧ w'.cell? ⟨gb1, 3, none⟩ = some (.int .i64 a0_3) ∧ w'.cell? ⟨gb1, 4, none⟩ = some (.int .i64 a0_4) ∧ w'.cell? ⟨gb1, 5, none⟩ = some (.slice A0_5 l0_5.length c0_5)) ∧ (w'.heap[gb1]? = some (.cells #[.int .i64 a0_0, .int .i64 a0_1, .int .i64 a0_2, .int .i64 a0_3, .int .i64 a0_4, .slice A0_5 l0_5.length c0_5] 24 (0, 0))) ∧ (w'.heap[gb2]? = some (.cells #[.int .i64 0, .int .i64 0, .int .i64 0, .int .i64 0, .int .i64 0, .slice none 0 0] 24 (0, 0))) ∧ (Below w.heap.size w w')) ?_ ?_
                rotate_left
                · intro hJ2
                  refine join_ (σ := Nat) 7 #[true, true, false, false, true, true, false, true, true, false, true, true, false, false, true, false] (fun s_ => [(3, .pointer (some ⟨s_, 0, none⟩))]) (fun s_ w' => (w'.cell? ⟨gb1, 0, none⟩ = some (.int .i64 a0_0) ∧ w'.cell? ⟨gb1, 1, none⟩ = some (.int .i64 a0_1) ∧ w'.cell? ⟨gb1, 2, none⟩ = some (.int .i64 a0_2) ∧ w'.cell? ⟨gb1, 3, none⟩ = some (.int .i64 a0_3) ∧ w'.cell? ⟨gb1, 4, none⟩ = some (.int .i64 a0_4) ∧ w'.cell? ⟨gb1, 5, none⟩ = some (.slice A0_5 l0_5.length c0_5)) ∧ (w'.heap[gb1]? = some (.cells #[.int .i64 a0_0, .int .i64 a0_1, .int .i64 a0_2, .int .i64 a0_3, .int .i64 a0_4, .slice A0_5 l0_5.length c0_5] 24 (0, 0))) ∧ (w'.heap[gb2]? = some (.cells #[.int .i64 0, .int .i64 0, .int .i64 0, .int .i64 0, .int .i64 0, .slice none 0 0] 24 (0, 0))) ∧ (w'.heap[s_]? = some (.cells #[.int .i64 0, .int .i64 0, .int .i64 0, .int .i64 0, .int .i64 0, .slice none 0 0] 24 (0, 0))) ∧ (w.heap.size ≤ s_) ∧ (w.heap.size ≤ s_) ∧ (gb1 ≠ s_) ∧ (s_ ≠ gb1) ∧ (gb2 ≠ s_) ∧ (s_ ≠ gb2) ∧ (Below w.heap.size w w')) ?_ ?_
                  rotate_left
                  · intro hJ14
                    refine two_ (i := 2) (j := 14) (Ni := some 7) (Nj := some 3) #[true, true, true, false, true, true, false, true, true, false, true, true, false, false, false, false] #[true, true, false, false, true, true, false, true, true, false, true, true, false, false, true, false] rfl rfl rfl rfl (two_of HT_.out (by kernel_rfl)) (by decide) (by decide) (fun K hK => ?_) (fun K hK => ?_)
                    · skip
                      refine goes_ Try.func65 (by kernel_rfl) rfl #[.int .i64 a0_0, .int .i64 7] (by rfl) rfl rfl (by (try simp only [List.map_toArray, List.map_cons, List.map_nil]); first | done | rfl | (simp only [List.length_drop, List.length_take]; rfl)) ?_
                      with_reducible refine (plaitinglaw3_within.calls a0_0 7 t3 _ A2.out).mono ?_
                      rintro e w' ⟨rfl, ⟨nd, rfl⟩⟩
                      refine ⟨_, rfl, ?_⟩
                      refine hK.out _ _ ⟨(blk_cell BK1.out 0).trans rfl, (blk_cell BK1.out 1).trans rfl, (blk_cell BK1.out 2).trans rfl, (blk_cell BK1.out 3).trans rfl, (blk_cell BK1.out 4).trans rfl, (blk_cell BK1.out 5).trans rfl⟩ (fun hHeld => ?_)
                      clear hK K
                      refine norm_ (a' := ?_) ?_ ?_
                      rotate_left
                      · show Act.put _ (some 7) _ = _
                        simp only [Act.put, List.setIfInBounds_toArray, List.set_cons_zero, List.set_cons_succ, i64_w, i32_w]
                        rfl
                      refine pure_ (i := 3) (N := some 8) (v := ?_) (a' := ?_) #[true, true, true, true, true, true, false, true, true, false, true, true, false, false, false, false] rfl rfl (any_of HT_.out (by kernel_rfl)) (fun _ _ _ h => h) (Or.inl ⟨by rfl, ?_⟩) ?_ ?_
                      rotate_left
                      · intro w'
                        go_simp
                        with_reducible rfl
                      rotate_left
                      · simp only [Act.put, List.setIfInBounds_toArray, List.set_cons_zero, List.set_cons_succ, i64_w, i32_w]
                        rfl
                      exact norm_ (by first | (simp only [putAll, Act.put, List.setIfInBounds_toArray, List.set_cons_zero, List.set_cons_succ]; done) | (simp only [putAll, Act.put, List.setIfInBounds_toArray, List.set_cons_zero, List.set_cons_succ]; rfl)) (hJ2 () _ ⟨hHeld, (by (with_reducible repeat (first | refine blk_drewN ?_ _ | refine blk_drew ?_ | refine blk_alloc ?_ _)); exact BK1.out), (by (with_reducible repeat (first | refine blk_drewN ?_ _ | refine blk_drew ?_ | refine blk_alloc ?_ _)); exact BK2.out), (by repeat (first | (with_reducible first | exact HB.out | apply below_alloc | apply pw_below_drewN | apply below_drew1 | refine below_set ?_ GE1.out | refine below_set ?_ GE2.out) | exact HB.out))⟩)
                    · skip
                      refine box_step ?hg (N := 3) ?hd (cs := #[.int .i64 0, .int .i64 0, .int .i64 0, .int .i64 0, .int .i64 0, .slice none 0 0]) (t := 24) ?hr ?_; (case hd => rfl); (case hg => rfl); (case hr => first | (go_simp; done) | (go_simp; rfl))
                      intro gb7 hg w11 hbox hb
                      have n0_ := Aside0.mk (blk_below (g := gb1) (o := .cells #[.int .i64 a0_0, .int .i64 a0_1, .int .i64 a0_2, .int .i64 a0_3, .int .i64 a0_4, .slice A0_5 l0_5.length c0_5] 24 (0, 0)) (by (with_reducible repeat (first | refine blk_drewN ?_ _ | refine blk_drew ?_ | refine blk_alloc ?_ _)); exact BK1.out) hb)
                      have n1_ := Aside0.mk (blk_below (g := gb2) (o := .cells #[.int .i64 0, .int .i64 0, .int .i64 0, .int .i64 0, .int .i64 0, .slice none 0 0] 24 (0, 0)) (by (with_reducible repeat (first | refine blk_drewN ?_ _ | refine blk_drew ?_ | refine blk_alloc ?_ _)); exact BK2.out) hb)
                      have n2_ := Aside0.mk (below_step (by repeat (first | (with_reducible first | exact HB.out | apply below_alloc | apply pw_below_drewN | apply below_drew1 | refine below_set ?_ GE1.out | refine below_set ?_ GE2.out) | exact HB.out)) hb)
                      have n3_ := Aside0.mk (hbox)
                      have n4_ := Aside0.mk ((by rw [hg]; exact (below_size (by repeat (first | (with_reducible first | exact HB.out | apply below_alloc | apply pw_below_drewN | apply below_drew1 | refine below_set ?_ GE1.out | refine below_set ?_ GE2.out) | exact HB.out))) : w.heap.size ≤ gb7))
                      have n5_ := Aside0.mk ((by rw [hg]; exact (below_size (by repeat (first | (with_reducible first | exact HB.out | apply below_alloc | apply pw_below_drewN | apply below_drew1 | refine below_set ?_ GE1.out | refine below_set ?_ GE2.out) | exact HB.out))) : w.heap.size ≤ gb7))
                      have n6_ := Aside0.mk ((by rw [hg]; exact Nat.ne_of_lt (blk_lt (g := gb1) (o := .cells #[.int .i64 a0_0, .int .i64 a0_1, .int .i64 a0_2, .int .i64 a0_3, .int .i64 a0_4, .slice A0_5 l0_5.length c0_5] 24 (0, 0)) (by (with_reducible repeat (first | refine blk_drewN ?_ _ | refine blk_drew ?_ | refine blk_alloc ?_ _)); exact BK1.out)) : gb1 ≠ gb7))
                      have n7_ := Aside0.mk ((by rw [hg]; exact Nat.ne_of_gt (blk_lt (g := gb1) (o := .cells #[.int .i64 a0_0, .int .i64 a0_1, .int .i64 a0_2, .int .i64 a0_3, .int .i64 a0_4, .slice A0_5 l0_5.length c0_5] 24 (0, 0)) (by (with_reducible repeat (first | refine blk_drewN ?_ _ | refine blk_drew ?_ | refine blk_alloc ?_ _)); exact BK1.out)) : gb7 ≠ gb1))
                      have n8_ := Aside0.mk ((by rw [hg]; exact Nat.ne_of_lt (blk_lt (g := gb2) (o := .cells #[.int .i64 0, .int .i64 0, .int .i64 0, .int .i64 0, .int .i64 0, .slice none 0 0] 24 (0, 0)) (by (with_reducible repeat (first | refine blk_drewN ?_ _ | refine blk_drew ?_ | refine blk_alloc ?_ _)); exact BK2.out)) : gb2 ≠ gb7))
                      have n9_ := Aside0.mk ((by rw [hg]; exact Nat.ne_of_gt (blk_lt (g := gb2) (o := .cells #[.int .i64 0, .int .i64 0, .int .i64 0, .int .i64 0, .int .i64 0, .slice none 0 0] 24 (0, 0)) (by (with_reducible repeat (first | refine blk_drewN ?_ _ | refine blk_drew ?_ | refine blk_alloc ?_ _)); exact BK2.out)) : gb7 ≠ gb2))
                      clear BK1
                      clear BK2
                      clear HB
                      have BK1 := n0_
                      have BK2 := n1_
                      have HB := n2_
                      have BK7 := n3_
                      have GW7 := n4_
                      have GE7 := n5_
                      have NB1_7 := n6_
                      have NB7_1 := n7_
                      have NB2_7 := n8_
                      have NB7_2 := n9_
                      clear n0_ n1_ n2_ n3_ n4_ n5_ n6_ n7_ n8_ n9_
                      clear hb hbox hg
                      refine hK.out _ _ ⟨(blk_cell BK1.out 0).trans rfl, (blk_cell BK1.out 1).trans rfl, (blk_cell BK1.out 2).trans rfl, (blk_cell BK1.out 3).trans rfl, (blk_cell BK1.out 4).trans rfl, (blk_cell BK1.out 5).trans rfl⟩ (fun hHeld => ?_)
                      clear hK K
                      refine norm_ (a' := ?_) ?_ ?_
                      rotate_left
                      · show Act.put _ (some 3) _ = _
                        simp only [Act.put, List.setIfInBounds_toArray, List.set_cons_zero, List.set_cons_succ, i64_w, i32_w]
                        rfl
                      exact norm_ (by first | (simp only [putAll, Act.put, List.setIfInBounds_toArray, List.set_cons_zero, List.set_cons_succ]; done) | (simp only [putAll, Act.put, List.setIfInBounds_toArray, List.set_cons_zero, List.set_cons_succ]; rfl)) (hJ14 (gb7) _ ⟨hHeld, (by (with_reducible repeat (first | refine blk_drewN ?_ _ | refine blk_drew ?_ | refine blk_alloc ?_ _)); exact BK1.out), (by (with_reducible repeat (first | refine blk_drewN ?_ _ | refine blk_drew ?_ | refine blk_alloc ?_ _)); exact BK2.out), (by (with_reducible repeat (first | refine blk_drewN ?_ _ | refine blk_drew ?_ | refine blk_alloc ?_ _)); exact BK7.out), GW7.out, GE7.out, NB1_7.out, NB7_1.out, NB2_7.out, NB7_2.out, (by repeat (first | (with_reducible first | exact HB.out | apply below_alloc | apply pw_below_drewN | apply below_drew1 | refine below_set ?_ GE1.out | refine below_set ?_ GE2.out | refine below_set ?_ GE7.out) | exact HB.out))⟩)
                  · skip
                    rintro gb7 w12 ⟨hS_, h0_, h1_, h2_, h3_, h4_, h5_, h6_, h7_, h8_, h9_⟩
                    have n0_ : Aside0 (w12.heap[gb1]? = some (.cells #[.int .i64 a0_0, .int .i64 a0_1, .int .i64 a0_2, .int .i64 a0_3, .int .i64 a0_4, .slice A0_5 l0_5.length c0_5] 24 (0, 0))) := ⟨h0_⟩
                    have n1_ : Aside0 (w12.heap[gb2]? = some (.cells #[.int .i64 0, .int .i64 0, .int .i64 0, .int .i64 0, .int .i64 0, .slice none 0 0] 24 (0, 0))) := ⟨h1_⟩
                    have n2_ : Aside0 (w12.heap[gb7]? = some (.cells #[.int .i64 0, .int .i64 0, .int .i64 0, .int .i64 0, .int .i64 0, .slice none 0 0] 24 (0, 0))) := ⟨h2_⟩
                    have n3_ : Aside0 (w.heap.size ≤ gb7) := ⟨h3_⟩
                    have n4_ : Aside0 (w.heap.size ≤ gb7) := ⟨h4_⟩
                    have n5_ : Aside0 (gb1 ≠ gb7) := ⟨h5_⟩
                    have n6_ : Aside0 (gb7 ≠ gb1) := ⟨h6_⟩
                    have n7_ : Aside0 (gb2 ≠ gb7) := ⟨h7_⟩
                    have n8_ : Aside0 (gb7 ≠ gb2) := ⟨h8_⟩
                    have n9_ : Aside0 (Below w.heap.size w w12) := ⟨h9_⟩
                    clear BK1
                    clear BK2
                    clear HB
                    clear h0_ h1_ h2_ h3_ h4_ h5_ h6_ h7_ h8_ h9_
                    have BK1 := n0_
                    have BK2 := n1_
                    have BK7 := n2_
                    have GW7 := n3_
                    have GE7 := n4_
                    have NB1_7 := n5_
                    have NB7_1 := n6_
                    have NB2_7 := n7_
                    have NB7_2 := n8_
                    have HB := n9_
                    clear n0_ n1_ n2_ n3_ n4_ n5_ n6_ n7_ n8_ n9_
                    have hHeld : w12.cell? ⟨gb1, 0, none⟩ = some (.int .i64 a0_0) ∧ w12.cell? ⟨gb1, 1, none⟩ = some (.int .i64 a0_1) ∧ w12.cell? ⟨gb1, 2, none⟩ = some (.int .i64 a0_2) ∧ w12.cell? ⟨gb1, 3, none⟩ = some (.int .i64 a0_3) ∧ w12.cell? ⟨gb1, 4, none⟩ = some (.int .i64 a0_4) ∧ w12.cell? ⟨gb1, 5, none⟩ = some (.slice A0_5 l0_5.length c0_5) := hS_
                    refine norm_ (a' := ?_) ?_ ?_
                    rotate_left
                    · simp only [putAll, Act.put, List.setIfInBounds_toArray, List.set_cons_zero, List.set_cons_succ]
                      rfl
                    refine one_ (i := 2) (N := some 7) #[true, true, true, false, true, true, false, true, true, false, true, true, false, false, true, false] rfl rfl (one_of HT_.out (by kernel_rfl)) (by decide) (fun K hK => ?_)
                    refine goes_ Try.func65 (by kernel_rfl) rfl #[.int .i64 a0_0, .int .i64 7] (by rfl) rfl rfl (by (try simp only [List.map_toArray, List.map_cons, List.map_nil]); first | done | rfl | (simp only [List.length_drop, List.length_take]; rfl)) ?_
                    with_reducible refine (plaitinglaw3_within.calls a0_0 7 t3 _ A2.out).mono ?_
                    rintro e w' ⟨rfl, ⟨nd, rfl⟩⟩
                    refine ⟨_, rfl, ?_⟩
                    refine hK.out _ _ ⟨(blk_cell BK1.out 0).trans rfl, (blk_cell BK1.out 1).trans rfl, (blk_cell BK1.out 2).trans rfl, (blk_cell BK1.out 3).trans rfl, (blk_cell BK1.out 4).trans rfl, (blk_cell BK1.out 5).trans rfl⟩ (fun hHeld => ?_)
                    clear hK K
                    refine norm_ (a' := ?_) ?_ ?_
                    rotate_left
                    · show Act.put _ (some 7) _ = _
                      simp only [Act.put, List.setIfInBounds_toArray, List.set_cons_zero, List.set_cons_succ, i64_w, i32_w]
                      rfl
                    refine pure_ (i := 3) (N := some 8) (v := ?_) (a' := ?_) #[true, true, true, true, true, true, false, true, true, false, true, true, false, false, true, false] rfl rfl (any_of HT_.out (by kernel_rfl)) (fun _ _ _ h => h) (Or.inl ⟨by rfl, ?_⟩) ?_ ?_
                    rotate_left
                    · intro w'
                      go_simp
                      with_reducible rfl
                    rotate_left
                    · simp only [Act.put, List.setIfInBounds_toArray, List.set_cons_zero, List.set_cons_succ, i64_w, i32_w]
                      rfl
                    exact norm_ (by first | (simp only [putAll, Act.put, List.setIfInBounds_toArray, List.set_cons_zero, List.set_cons_succ]; done) | (simp only [putAll, Act.put, List.setIfInBounds_toArray, List.set_cons_zero, List.set_cons_succ]; rfl)) (hJ2_14 (gb7) _ ⟨hHeld, (by (with_reducible repeat (first | refine blk_drewN ?_ _ | refine blk_drew ?_ | refine blk_alloc ?_ _)); exact BK1.out), (by (with_reducible repeat (first | refine blk_drewN ?_ _ | refine blk_drew ?_ | refine blk_alloc ?_ _)); exact BK2.out), (by (with_reducible repeat (first | refine blk_drewN ?_ _ | refine blk_drew ?_ | refine blk_alloc ?_ _)); exact BK7.out), GW7.out, GE7.out, NB1_7.out, NB7_1.out, NB2_7.out, NB7_2.out, (by repeat (first | (with_reducible first | exact HB.out | apply below_alloc | apply pw_below_drewN | apply below_drew1 | refine below_set ?_ GE1.out | refine below_set ?_ GE2.out | refine below_set ?_ GE7.out) | exact HB.out))⟩)
                · skip
                  rintro _ w11 ⟨hS_, h0_, h1_, h2_⟩
                  have n0_ : Aside0 (w11.heap[gb1]? = some (.cells #[.int .i64 a0_0, .int .i64 a0_1, .int .i64 a0_2, .int .i64 a0_3, .int .i64 a0_4, .slice A0_5 l0_5.length c0_5] 24 (0, 0))) := ⟨h0_⟩
                  have n1_ : Aside0 (w11.heap[gb2]? = some (.cells #[.int .i64 0, .int .i64 0, .int .i64 0, .int .i64 0, .int .i64 0, .slice none 0 0] 24 (0, 0))) := ⟨h1_⟩
                  have n2_ : Aside0 (Below w.heap.size w w11) := ⟨h2_⟩
                  clear BK1
                  clear BK2
                  clear HB
                  clear h0_ h1_ h2_
                  have BK1 := n0_
                  have BK2 := n1_
                  have HB := n2_
                  clear n0_ n1_ n2_
                  have hHeld : w11.cell? ⟨gb1, 0, none⟩ = some (.int .i64 a0_0) ∧ w11.cell? ⟨gb1, 1, none⟩ = some (.int .i64 a0_1) ∧ w11.cell? ⟨gb1, 2, none⟩ = some (.int .i64 a0_2) ∧ w11.cell? ⟨gb1, 3, none⟩ = some (.int .i64 a0_3) ∧ w11.cell? ⟨gb1, 4, none⟩ = some (.int .i64 a0_4) ∧ w11.cell? ⟨gb1, 5, none⟩ = some (.slice A0_5 l0_5.length c0_5) := hS_
                  refine norm_ (a' := ?_) ?_ ?_
                  rotate_left
                  · simp only [putAll, Act.put, List.setIfInBounds_toArray, List.set_cons_zero, List.set_cons_succ]
                    rfl
                  refine two_ (i := 6) (j := 14) (Ni := some 11) (Nj := some 3) #[true, true, true, true, true, true, true, true, true, false, true, true, false, false, false, false] #[true, true, true, true, true, true, false, true, true, false, true, true, false, false, true, false] rfl rfl rfl rfl (two_of HT_.out (by kernel_rfl)) (by decide) (by decide) (fun K hK => ?_) (fun K hK => ?_)
                  · skip
                    refine goes_ Try.func65 (by kernel_rfl) rfl #[.int .i64 a0_2, .int .i64 21] (by rfl) rfl rfl (by (try simp only [List.map_toArray, List.map_cons, List.map_nil]); first | done | rfl | (simp only [List.length_drop, List.length_take]; rfl)) ?_
                    with_reducible refine (plaitinglaw3_within.calls a0_2 21 t4 _ A3.out).mono ?_
                    rintro e w' ⟨rfl, ⟨nd, rfl⟩⟩
                    refine ⟨_, rfl, ?_⟩
                    refine hK.out _ _ ⟨(blk_cell BK1.out 0).trans rfl, (blk_cell BK1.out 1).trans rfl, (blk_cell BK1.out 2).trans rfl, (blk_cell BK1.out 3).trans rfl, (blk_cell BK1.out 4).trans rfl, (blk_cell BK1.out 5).trans rfl⟩ (fun hHeld => ?_)
                    clear hK K
                    refine norm_ (a' := ?_) ?_ ?_
                    rotate_left
                    · show Act.put _ (some 11) _ = _
                      simp only [Act.put, List.setIfInBounds_toArray, List.set_cons_zero, List.set_cons_succ, i64_w, i32_w]
                      rfl
                    exact norm_ (by first | (simp only [putAll, Act.put, List.setIfInBounds_toArray, List.set_cons_zero, List.set_cons_succ]; done) | (simp only [putAll, Act.put, List.setIfInBounds_toArray, List.set_cons_zero, List.set_cons_succ]; rfl)) (hJ2_6 () _ ⟨hHeld, (by (with_reducible repeat (first | refine blk_drewN ?_ _ | refine blk_drew ?_ | refine blk_alloc ?_ _)); exact BK1.out), (by (with_reducible repeat (first | refine blk_drewN ?_ _ | refine blk_drew ?_ | refine blk_alloc ?_ _)); exact BK2.out), (by repeat (first | (with_reducible first | exact HB.out | apply below_alloc | apply pw_below_drewN | apply below_drew1 | refine below_set ?_ GE1.out | refine below_set ?_ GE2.out) | exact HB.out))⟩)
                  · skip
                    refine box_step ?hg (N := 3) ?hd (cs := #[.int .i64 0, .int .i64 0, .int .i64 0, .int .i64 0, .int .i64 0, .slice none 0 0]) (t := 24) ?hr ?_; (case hd => rfl); (case hg => rfl); (case hr => first | (go_simp; done) | (go_simp; rfl))
                    intro gb7 hg w12 hbox hb
                    have n0_ := Aside0.mk (blk_below (g := gb1) (o := .cells #[.int .i64 a0_0, .int .i64 a0_1, .int .i64 a0_2, .int .i64 a0_3, .int .i64 a0_4, .slice A0_5 l0_5.length c0_5] 24 (0, 0)) (by (with_reducible repeat (first | refine blk_drewN ?_ _ | refine blk_drew ?_ | refine blk_alloc ?_ _)); exact BK1.out) hb)
                    have n1_ := Aside0.mk (blk_below (g := gb2) (o := .cells #[.int .i64 0, .int .i64 0, .int .i64 0, .int .i64 0, .int .i64 0, .slice none 0 0] 24 (0, 0)) (by (with_reducible repeat (first | refine blk_drewN ?_ _ | refine blk_drew ?_ | refine blk_alloc ?_ _)); exact BK2.out) hb)
                    have n2_ := Aside0.mk (below_step (by repeat (first | (with_reducible first | exact HB.out | apply below_alloc | apply pw_below_drewN | apply below_drew1 | refine below_set ?_ GE1.out | refine below_set ?_ GE2.out) | exact HB.out)) hb)
                    have n3_ := Aside0.mk (hbox)
                    have n4_ := Aside0.mk ((by rw [hg]; exact (below_size (by repeat (first | (with_reducible first | exact HB.out | apply below_alloc | apply pw_below_drewN | apply below_drew1 | refine below_set ?_ GE1.out | refine below_set ?_ GE2.out) | exact HB.out))) : w.heap.size ≤ gb7))
                    have n5_ := Aside0.mk ((by rw [hg]; exact (below_size (by repeat (first | (with_reducible first | exact HB.out | apply below_alloc | apply pw_below_drewN | apply below_drew1 | refine below_set ?_ GE1.out | refine below_set ?_ GE2.out) | exact HB.out))) : w.heap.size ≤ gb7))
                    have n6_ := Aside0.mk ((by rw [hg]; exact Nat.ne_of_lt (blk_lt (g := gb1) (o := .cells #[.int .i64 a0_0, .int .i64 a0_1, .int .i64 a0_2, .int .i64 a0_3, .int .i64 a0_4, .slice A0_5 l0_5.length c0_5] 24 (0, 0)) (by (with_reducible repeat (first | refine blk_drewN ?_ _ | refine blk_drew ?_ | refine blk_alloc ?_ _)); exact BK1.out)) : gb1 ≠ gb7))
                    have n7_ := Aside0.mk ((by rw [hg]; exact Nat.ne_of_gt (blk_lt (g := gb1) (o := .cells #[.int .i64 a0_0, .int .i64 a0_1, .int .i64 a0_2, .int .i64 a0_3, .int .i64 a0_4, .slice A0_5 l0_5.length c0_5] 24 (0, 0)) (by (with_reducible repeat (first | refine blk_drewN ?_ _ | refine blk_drew ?_ | refine blk_alloc ?_ _)); exact BK1.out)) : gb7 ≠ gb1))
                    have n8_ := Aside0.mk ((by rw [hg]; exact Nat.ne_of_lt (blk_lt (g := gb2) (o := .cells #[.int .i64 0, .int .i64 0, .int .i64 0, .int .i64 0, .int .i64 0, .slice none 0 0] 24 (0, 0)) (by (with_reducible repeat (first | refine blk_drewN ?_ _ | refine blk_drew ?_ | refine blk_alloc ?_ _)); exact BK2.out)) : gb2 ≠ gb7))
                    have n9_ := Aside0.mk ((by rw [hg]; exact Nat.ne_of_gt (blk_lt (g := gb2) (o := .cells #[.int .i64 0, .int .i64 0, .int .i64 0, .int .i64 0, .int .i64 0, .slice none 0 0] 24 (0, 0)) (by (with_reducible repeat (first | refine blk_drewN ?_ _ | refine blk_drew ?_ | refine blk_alloc ?_ _)); exact BK2.out)) : gb7 ≠ gb2))
                    clear BK1
                    clear BK2
                    clear HB
                    have BK1 := n0_
                    have BK2 := n1_
                    have HB := n2_
                    have BK7 := n3_
                    have GW7 := n4_
                    have GE7 := n5_
                    have NB1_7 := n6_
                    have NB7_1 := n7_
                    have NB2_7 := n8_
                    have NB7_2 := n9_
                    clear n0_ n1_ n2_ n3_ n4_ n5_ n6_ n7_ n8_ n9_
                    clear hb hbox hg
                    refine hK.out _ _ ⟨(blk_cell BK1.out 0).trans rfl, (blk_cell BK1.out 1).trans rfl, (blk_cell BK1.out 2).trans rfl, (blk_cell BK1.out 3).trans rfl, (blk_cell BK1.out 4).trans rfl, (blk_cell BK1.out 5).trans rfl⟩ (fun hHeld => ?_)
                    clear hK K
                    refine norm_ (a' := ?_) ?_ ?_
                    rotate_left
                    · show Act.put _ (some 3) _ = _
                      simp only [Act.put, List.setIfInBounds_toArray, List.set_cons_zero, List.set_cons_succ, i64_w, i32_w]
                      rfl
                    exact norm_ (by first | (simp only [putAll, Act.put, List.setIfInBounds_toArray, List.set_cons_zero, List.set_cons_succ]; done) | (simp only [putAll, Act.put, List.setIfInBounds_toArray, List.set_cons_zero, List.set_cons_succ]; rfl)) (hJ2_14 (gb7) _ ⟨hHeld, (by (with_reducible repeat (first | refine blk_drewN ?_ _ | refine blk_drew ?_ | refine blk_alloc ?_ _)); exact BK1.out), (by (with_reducible repeat (first | refine blk_drewN ?_ _ | refine blk_drew ?_ | refine blk_alloc ?_ _)); exact BK2.out), (by (with_reducible repeat (first | refine blk_drewN ?_ _ | refine blk_drew ?_ | refine blk_alloc ?_ _)); exact BK7.out), GW7.out, GE7.out, NB1_7.out, NB7_1.out, NB2_7.out, NB7_2.out, (by repeat (first | (with_reducible first | exact HB.out | apply below_alloc | apply pw_below_drewN | apply below_drew1 | refine below_set ?_ GE1.out | refine below_set ?_ GE2.out | refine below_set ?_ GE7.out) | exact HB.out))⟩)
              · skip
                rintro gb7 w12 ⟨hS_, h0_, h1_, h2_, h3_, h4_, h5_, h6_, h7_, h8_, h9_⟩
                have n0_ : Aside0 (w12.heap[gb1]? = some (.cells #[.int .i64 a0_0, .int .i64 a0_1, .int .i64 a0_2, .int .i64 a0_3, .int .i64 a0_4, .slice A0_5 l0_5.length c0_5] 24 (0, 0))) := ⟨h0_⟩
                have n1_ : Aside0 (w12.heap[gb2]? = some (.cells #[.int .i64 0, .int .i64 0, .int .i64 0, .int .i64 0, .int .i64 0, .slice none 0 0] 24 (0, 0))) := ⟨h1_⟩
                have n2_ : Aside0 (w12.heap[gb7]? = some (.cells #[.int .i64 0, .int .i64 0, .int .i64 0, .int .i64 0, .int .i64 0, .slice none 0 0] 24 (0, 0))) := ⟨h2_⟩
                have n3_ : Aside0 (w.heap.size ≤ gb7) := ⟨h3_⟩
                have n4_ : Aside0 (w.heap.size ≤ gb7) := ⟨h4_⟩
                have n5_ : Aside0 (gb1 ≠ gb7) := ⟨h5_⟩
                have n6_ : Aside0 (gb7 ≠ gb1) := ⟨h6_⟩
                have n7_ : Aside0 (gb2 ≠ gb7) := ⟨h7_⟩
                have n8_ : Aside0 (gb7 ≠ gb2) := ⟨h8_⟩
                have n9_ : Aside0 (Below w.heap.size w w12) := ⟨h9_⟩
                clear BK1
                clear BK2
                clear HB
                clear h0_ h1_ h2_ h3_ h4_ h5_ h6_ h7_ h8_ h9_
                have BK1 := n0_
                have BK2 := n1_
                have BK7 := n2_
                have GW7 := n3_
                have GE7 := n4_
                have NB1_7 := n5_
                have NB7_1 := n6_
                have NB2_7 := n7_
                have NB7_2 := n8_
                have HB := n9_
                clear n0_ n1_ n2_ n3_ n4_ n5_ n6_ n7_ n8_ n9_
                have hHeld : w12.cell? ⟨gb1, 0, none⟩ = some (.int .i64 a0_0) ∧ w12.cell? ⟨gb1, 1, none⟩ = some (.int .i64 a0_1) ∧ w12.cell? ⟨gb1, 2, none⟩ = some (.int .i64 a0_2) ∧ w12.cell? ⟨gb1, 3, none⟩ = some (.int .i64 a0_3) ∧ w12.cell? ⟨gb1, 4, none⟩ = some (.int .i64 a0_4) ∧ w12.cell? ⟨gb1, 5, none⟩ = some (.slice A0_5 l0_5.length c0_5) := hS_
                refine norm_ (a' := ?_) ?_ ?_
                rotate_left
                · simp only [putAll, Act.put, List.setIfInBounds_toArray, List.set_cons_zero, List.set_cons_succ]
                  rfl
                refine one_ (i := 6) (N := some 11) #[true, true, true, true, true, true, true, true, true, false, true, true, false, false, true, false] rfl rfl (one_of HT_.out (by kernel_rfl)) (by decide) (fun K hK => ?_)
                refine goes_ Try.func65 (by kernel_rfl) rfl #[.int .i64 a0_2, .int .i64 21] (by rfl) rfl rfl (by (try simp only [List.map_toArray, List.map_cons, List.map_nil]); first | done | rfl | (simp only [List.length_drop, List.length_take]; rfl)) ?_
                with_reducible refine (plaitinglaw3_within.calls a0_2 21 t4 _ A3.out).mono ?_
                rintro e w' ⟨rfl, ⟨nd, rfl⟩⟩
                refine ⟨_, rfl, ?_⟩
                refine hK.out _ _ ⟨(blk_cell BK1.out 0).trans rfl, (blk_cell BK1.out 1).trans rfl, (blk_cell BK1.out 2).trans rfl, (blk_cell BK1.out 3).trans rfl, (blk_cell BK1.out 4).trans rfl, (blk_cell BK1.out 5).trans rfl⟩ (fun hHeld => ?_)
                clear hK K
                refine norm_ (a' := ?_) ?_ ?_
                rotate_left
                · show Act.put _ (some 11) _ = _
                  simp only [Act.put, List.setIfInBounds_toArray, List.set_cons_zero, List.set_cons_succ, i64_w, i32_w]
                  rfl
                exact norm_ (by first | (simp only [putAll, Act.put, List.setIfInBounds_toArray, List.set_cons_zero, List.set_cons_succ]; done) | (simp only [putAll, Act.put, List.setIfInBounds_toArray, List.set_cons_zero, List.set_cons_succ]; rfl)) (hJ2_6_14 (gb7) _ ⟨hHeld, (by (with_reducible repeat (first | refine blk_drewN ?_ _ | refine blk_drew ?_ | refine blk_alloc ?_ _)); exact BK1.out), (by (with_reducible repeat (first | refine blk_drewN ?_ _ | refine blk_drew ?_ | refine blk_alloc ?_ _)); exact BK2.out), (by (with_reducible repeat (first | refine blk_drewN ?_ _ | refine blk_drew ?_ | refine blk_alloc ?_ _)); exact BK7.out), GW7.out, GE7.out, NB1_7.out, NB7_1.out, NB2_7.out, NB7_2.out, (by repeat (first | (with_reducible first | exact HB.out | apply below_alloc | apply pw_below_drewN | apply below_drew1 | refine below_set ?_ GE1.out | refine below_set ?_ GE2.out | refine below_set ?_ GE7.out) | exact HB.out))⟩)
            · skip
              rintro _ w11 ⟨hS_, h0_, h1_, h2_⟩
              have n0_ : Aside0 (w11.heap[gb1]? = some (.cells #[.int .i64 a0_0, .int .i64 a0_1, .int .i64 a0_2, .int .i64 a0_3, .int .i64 a0_4, .slice A0_5 l0_5.length c0_5] 24 (0, 0))) := ⟨h0_⟩
              have n1_ : Aside0 (w11.heap[gb2]? = some (.cells #[.int .i64 0, .int .i64 0, .int .i64 0, .int .i64 0, .int .i64 0, .slice none 0 0] 24 (0, 0))) := ⟨h1_⟩
              have n2_ : Aside0 (Below w.heap.size w w11) := ⟨h2_⟩
              clear BK1
              clear BK2
              clear HB
              clear h0_ h1_ h2_
              have BK1 := n0_
              have BK2 := n1_
              have HB := n2_
              clear n0_ n1_ n2_
              have hHeld : w11.cell? ⟨gb1, 0, none⟩ = some (.int .i64 a0_0) ∧ w11.cell? ⟨gb1, 1, none⟩ = some (.int .i64 a0_1) ∧ w11.cell? ⟨gb1, 2, none⟩ = some (.int .i64 a0_2) ∧ w11.cell? ⟨gb1, 3, none⟩ = some (.int .i64 a0_3) ∧ w11.cell? ⟨gb1, 4, none⟩ = some (.int .i64 a0_4) ∧ w11.cell? ⟨gb1, 5, none⟩ = some (.slice A0_5 l0_5.length c0_5) := hS_
              refine norm_ (a' := ?_) ?_ ?_
              rotate_left
              · simp only [putAll, Act.put, List.setIfInBounds_toArray, List.set_cons_zero, List.set_cons_succ]
                rfl
              refine two_ (i := 9) (j := 14) (Ni := some 14) (Nj := some 3) #[true, true, true, true, true, true, true, true, true, true, true, true, false, false, false, false] #[true, true, true, true, true, true, true, true, true, false, true, true, false, false, true, false] rfl rfl rfl rfl (two_of HT_.out (by kernel_rfl)) (by decide) (by decide) (fun K hK => ?_) (fun K hK => ?_)
              · skip
                refine goes_ Try.func65 (by kernel_rfl) rfl #[.int .i64 a0_3, .int .i64 21] (by rfl) rfl rfl (by (try simp only [List.map_toArray, List.map_cons, List.map_nil]); first | done | rfl | (simp only [List.length_drop, List.length_take]; rfl)) ?_
                with_reducible refine (plaitinglaw3_within.calls a0_3 21 t5 _ A4.out).mono ?_
                rintro e w' ⟨rfl, ⟨nd, rfl⟩⟩
                refine ⟨_, rfl, ?_⟩
                refine hK.out _ _ ⟨(blk_cell BK1.out 0).trans rfl, (blk_cell BK1.out 1).trans rfl, (blk_cell BK1.out 2).trans rfl, (blk_cell BK1.out 3).trans rfl, (blk_cell BK1.out 4).trans rfl, (blk_cell BK1.out 5).trans rfl⟩ (fun hHeld => ?_)
                clear hK K
                refine norm_ (a' := ?_) ?_ ?_
                rotate_left
                · show Act.put _ (some 14) _ = _
                  simp only [Act.put, List.setIfInBounds_toArray, List.set_cons_zero, List.set_cons_succ, i64_w, i32_w]
                  rfl
                exact norm_ (by first | (simp only [putAll, Act.put, List.setIfInBounds_toArray, List.set_cons_zero, List.set_cons_succ]; done) | (simp only [putAll, Act.put, List.setIfInBounds_toArray, List.set_cons_zero, List.set_cons_succ]; rfl)) (hJ2_6_9 () _ ⟨hHeld, (by (with_reducible repeat (first | refine blk_drewN ?_ _ | refine blk_drew ?_ | refine blk_alloc ?_ _)); exact BK1.out), (by (with_reducible repeat (first | refine blk_drewN ?_ _ | refine blk_drew ?_ | refine blk_alloc ?_ _)); exact BK2.out), (by repeat (first | (with_reducible first | exact HB.out | apply below_alloc | apply pw_below_drewN | apply below_drew1 | refine below_set ?_ GE1.out | refine below_set ?_ GE2.out) | exact HB.out))⟩)
              · skip
                refine box_step ?hg (N := 3) ?hd (cs := #[.int .i64 0, .int .i64 0, .int .i64 0, .int .i64 0, .int .i64 0, .slice none 0 0]) (t := 24) ?hr ?_; (case hd => rfl); (case hg => rfl); (case hr => first | (go_simp; done) | (go_simp; rfl))
                intro gb7 hg w12 hbox hb
                have n0_ := Aside0.mk (blk_below (g := gb1) (o := .cells #[.int .i64 a0_0, .int .i64 a0_1, .int .i64 a0_2, .int .i64 a0_3, .int .i64 a0_4, .slice A0_5 l0_5.length c0_5] 24 (0, 0)) (by (with_reducible repeat (first | refine blk_drewN ?_ _ | refine blk_drew ?_ | refine blk_alloc ?_ _)); exact BK1.out) hb)
                have n1_ := Aside0.mk (blk_below (g := gb2) (o := .cells #[.int .i64 0, .int .i64 0, .int .i64 0, .int .i64 0, .int .i64 0, .slice none 0 0] 24 (0, 0)) (by (with_reducible repeat (first | refine blk_drewN ?_ _ | refine blk_drew ?_ | refine blk_alloc ?_ _)); exact BK2.out) hb)
                have n2_ := Aside0.mk (below_step (by repeat (first | (with_reducible first | exact HB.out | apply below_alloc | apply pw_below_drewN | apply below_drew1 | refine below_set ?_ GE1.out | refine below_set ?_ GE2.out) | exact HB.out)) hb)
                have n3_ := Aside0.mk (hbox)
                have n4_ := Aside0.mk ((by rw [hg]; exact (below_size (by repeat (first | (with_reducible first | exact HB.out | apply below_alloc | apply pw_below_drewN | apply below_drew1 | refine below_set ?_ GE1.out | refine below_set ?_ GE2.out) | exact HB.out))) : w.heap.size ≤ gb7))
                have n5_ := Aside0.mk ((by rw [hg]; exact (below_size (by repeat (first | (with_reducible first | exact HB.out | apply below_alloc | apply pw_below_drewN | apply below_drew1 | refine below_set ?_ GE1.out | refine below_set ?_ GE2.out) | exact HB.out))) : w.heap.size ≤ gb7))
                have n6_ := Aside0.mk ((by rw [hg]; exact Nat.ne_of_lt (blk_lt (g := gb1) (o := .cells #[.int .i64 a0_0, .int .i64 a0_1, .int .i64 a0_2, .int .i64 a0_3, .int .i64 a0_4, .slice A0_5 l0_5.length c0_5] 24 (0, 0)) (by (with_reducible repeat (first | refine blk_drewN ?_ _ | refine blk_drew ?_ | refine blk_alloc ?_ _)); exact BK1.out)) : gb1 ≠ gb7))
                have n7_ := Aside0.mk ((by rw [hg]; exact Nat.ne_of_gt (blk_lt (g := gb1) (o := .cells #[.int .i64 a0_0, .int .i64 a0_1, .int .i64 a0_2, .int .i64 a0_3, .int .i64 a0_4, .slice A0_5 l0_5.length c0_5] 24 (0, 0)) (by (with_reducible repeat (first | refine blk_drewN ?_ _ | refine blk_drew ?_ | refine blk_alloc ?_ _)); exact BK1.out)) : gb7 ≠ gb1))
                have n8_ := Aside0.mk ((by rw [hg]; exact Nat.ne_of_lt (blk_lt (g := gb2) (o := .cells #[.int .i64 0, .int .i64 0, .int .i64 0, .int .i64 0, .int .i64 0, .slice none 0 0] 24 (0, 0)) (by (with_reducible repeat (first | refine blk_drewN ?_ _ | refine blk_drew ?_ | refine blk_alloc ?_ _)); exact BK2.out)) : gb2 ≠ gb7))
                have n9_ := Aside0.mk ((by rw [hg]; exact Nat.ne_of_gt (blk_lt (g := gb2) (o := .cells #[.int .i64 0, .int .i64 0, .int .i64 0, .int .i64 0, .int .i64 0, .slice none 0 0] 24 (0, 0)) (by (with_reducible repeat (first | refine blk_drewN ?_ _ | refine blk_drew ?_ | refine blk_alloc ?_ _)); exact BK2.out)) : gb7 ≠ gb2))
                clear BK1
                clear BK2
                clear HB
                have BK1 := n0_
                have BK2 := n1_
                have HB := n2_
                have BK7 := n3_
                have GW7 := n4_
                have GE7 := n5_
                have NB1_7 := n6_
                have NB7_1 := n7_
                have NB2_7 := n8_
                have NB7_2 := n9_
                clear n0_ n1_ n2_ n3_ n4_ n5_ n6_ n7_ n8_ n9_
                clear hb hbox hg
                refine hK.out _ _ ⟨(blk_cell BK1.out 0).trans rfl, (blk_cell BK1.out 1).trans rfl, (blk_cell BK1.out 2).trans rfl, (blk_cell BK1.out 3).trans rfl, (blk_cell BK1.out 4).trans rfl, (blk_cell BK1.out 5).trans rfl⟩ (fun hHeld => ?_)
                clear hK K
                refine norm_ (a' := ?_) ?_ ?_
                rotate_left
                · show Act.put _ (some 3) _ = _
                  simp only [Act.put, List.setIfInBounds_toArray, List.set_cons_zero, List.set_cons_succ, i64_w, i32_w]
                  rfl
                exact norm_ (by first | (simp only [putAll, Act.put, List.setIfInBounds_toArray, List.set_cons_zero, List.set_cons_succ]; done) | (simp only [putAll, Act.put, List.setIfInBounds_toArray, List.set_cons_zero, List.set_cons_succ]; rfl)) (hJ2_6_14 (gb7) _ ⟨hHeld, (by (with_reducible repeat (first | refine blk_drewN ?_ _ | refine blk_drew ?_ | refine blk_alloc ?_ _)); exact BK1.out), (by (with_reducible repeat (first | refine blk_drewN ?_ _ | refine blk_drew ?_ | refine blk_alloc ?_ _)); exact BK2.out), (by (with_reducible repeat (first | refine blk_drewN ?_ _ | refine blk_drew ?_ | refine blk_alloc ?_ _)); exact BK7.out), GW7.out, GE7.out, NB1_7.out, NB7_1.out, NB2_7.out, NB7_2.out, (by repeat (first | (with_reducible first | exact HB.out | apply below_alloc | apply pw_below_drewN | apply below_drew1 | refine below_set ?_ GE1.out | refine below_set ?_ GE2.out | refine below_set ?_ GE7.out) | exact HB.out))⟩)
          · skip
            rintro gb7 w12 ⟨hS_, h0_, h1_, h2_, h3_, h4_, h5_, h6_, h7_, h8_, h9_⟩
            have n0_ : Aside0 (w12.heap[gb1]? = some (.cells #[.int .i64 a0_0, .int .i64 a0_1, .int .i64 a0_2, .int .i64 a0_3, .int .i64 a0_4, .slice A0_5 l0_5.length c0_5] 24 (0, 0))) := ⟨h0_⟩
            have n1_ : Aside0 (w12.heap[gb2]? = some (.cells #[.int .i64 0, .int .i64 0, .int .i64 0, .int .i64 0, .int .i64 0, .slice none 0 0] 24 (0, 0))) := ⟨h1_⟩
            have n2_ : Aside0 (w12.heap[gb7]? = some (.cells #[.int .i64 0, .int .i64 0, .int .i64 0, .int .i64 0, .int .i64 0, .slice none 0 0] 24 (0, 0))) := ⟨h2_⟩
            have n3_ : Aside0 (w.heap.size ≤ gb7) := ⟨h3_⟩
            have n4_ : Aside0 (w.heap.size ≤ gb7) := ⟨h4_⟩
            have n5_ : Aside0 (gb1 ≠ gb7) := ⟨h5_⟩
            have n6_ : Aside0 (gb7 ≠ gb1) := ⟨h6_⟩
            have n7_ : Aside0 (gb2 ≠ gb7) := ⟨h7_⟩
            have n8_ : Aside0 (gb7 ≠ gb2) := ⟨h8_⟩
            have n9_ : Aside0 (Below w.heap.size w w12) := ⟨h9_⟩
            clear BK1
            clear BK2
            clear HB
            clear h0_ h1_ h2_ h3_ h4_ h5_ h6_ h7_ h8_ h9_
            have BK1 := n0_
            have BK2 := n1_
            have BK7 := n2_
            have GW7 := n3_
            have GE7 := n4_
            have NB1_7 := n5_
            have NB7_1 := n6_
            have NB2_7 := n7_
            have NB7_2 := n8_
            have HB := n9_
            clear n0_ n1_ n2_ n3_ n4_ n5_ n6_ n7_ n8_ n9_
            have hHeld : w12.cell? ⟨gb1, 0, none⟩ = some (.int .i64 a0_0) ∧ w12.cell? ⟨gb1, 1, none⟩ = some (.int .i64 a0_1) ∧ w12.cell? ⟨gb1, 2, none⟩ = some (.int .i64 a0_2) ∧ w12.cell? ⟨gb1, 3, none⟩ = some (.int .i64 a0_3) ∧ w12.cell? ⟨gb1, 4, none⟩ = some (.int .i64 a0_4) ∧ w12.cell? ⟨gb1, 5, none⟩ = some (.slice A0_5 l0_5.length c0_5) := hS_
            refine norm_ (a' := ?_) ?_ ?_
            rotate_left
            · simp only [putAll, Act.put, List.setIfInBounds_toArray, List.set_cons_zero, List.set_cons_succ]
              rfl
            refine one_ (i := 9) (N := some 14) #[true, true, true, true, true, true, true, true, true, true, true, true, false, false, true, false] rfl rfl (one_of HT_.out (by kernel_rfl)) (by decide) (fun K hK => ?_)
            refine goes_ Try.func65 (by kernel_rfl) rfl #[.int .i64 a0_3, .int .i64 21] (by rfl) rfl rfl (by (try simp only [List.map_toArray, List.map_cons, List.map_nil]); first | done | rfl | (simp only [List.length_drop, List.length_take]; rfl)) ?_
            with_reducible refine (plaitinglaw3_within.calls a0_3 21 t5 _ A4.out).mono ?_
            rintro e w' ⟨rfl, ⟨nd, rfl⟩⟩
            refine ⟨_, rfl, ?_⟩
            refine hK.out _ _ ⟨(blk_cell BK1.out 0).trans rfl, (blk_cell BK1.out 1).trans rfl, (blk_cell BK1.out 2).trans rfl, (blk_cell BK1.out 3).trans rfl, (blk_cell BK1.out 4).trans rfl, (blk_cell BK1.out 5).trans rfl⟩ (fun hHeld => ?_)
            clear hK K
            refine norm_ (a' := ?_) ?_ ?_
            rotate_left
            · show Act.put _ (some 14) _ = _
              simp only [Act.put, List.setIfInBounds_toArray, List.set_cons_zero, List.set_cons_succ, i64_w, i32_w]
              rfl
            exact norm_ (by first | (simp only [putAll, Act.put, List.setIfInBounds_toArray, List.set_cons_zero, List.set_cons_succ]; done) | (simp only [putAll, Act.put, List.setIfInBounds_toArray, List.set_cons_zero, List.set_cons_succ]; rfl)) (hJ2_6_9_14 (gb7) _ ⟨hHeld, (by (with_reducible repeat (first | refine blk_drewN ?_ _ | refine blk_drew ?_ | refine blk_alloc ?_ _)); exact BK1.out), (by (with_reducible repeat (first | refine blk_drewN ?_ _ | refine blk_drew ?_ | refine blk_alloc ?_ _)); exact BK2.out), (by (with_reducible repeat (first | refine blk_drewN ?_ _ | refine blk_drew ?_ | refine blk_alloc ?_ _)); exact BK7.out), GW7.out, GE7.out, NB1_7.out, NB7_1.out, NB2_7.out, NB7_2.out, (by repeat (first | (with_reducible first | exact HB.out | apply below_alloc | apply pw_below_drewN | apply below_drew1 | refine below_set ?_ GE1.out | refine below_set ?_ GE2.out | refine below_set ?_ GE7.out) | exact HB.out))⟩)
        · skip
          rintro _ w11 ⟨hS_, h0_, h1_, h2_⟩
          have n0_ : Aside0 (w11.heap[gb1]? = some (.cells #[.int .i64 a0_0, .int .i64 a0_1, .int .i64 a0_2, .int .i64 a0_3, .int .i64 a0_4, .slice A0_5 l0_5.length c0_5] 24 (0, 0))) := ⟨h0_⟩
          have n1_ : Aside0 (w11.heap[gb2]? = some (.cells #[.int .i64 0, .int .i64 0, .int .i64 0, .int .i64 0, .int .i64 0, .slice none 0 0] 24 (0, 0))) := ⟨h1_⟩
          have n2_ : Aside0 (Below w.heap.size w w11) := ⟨h2_⟩
          clear BK1
          clear BK2
          clear HB
          clear h0_ h1_ h2_
          have BK1 := n0_
          have BK2 := n1_
          have HB := n2_
          clear n0_ n1_ n2_
          have hHeld : w11.cell? ⟨gb1, 0, none⟩ = some (.int .i64 a0_0) ∧ w11.cell? ⟨gb1, 1, none⟩ = some (.int .i64 a0_1) ∧ w11.cell? ⟨gb1, 2, none⟩ = some (.int .i64 a0_2) ∧ w11.cell? ⟨gb1, 3, none⟩ = some (.int .i64 a0_3) ∧ w11.cell? ⟨gb1, 4, none⟩ = some (.int .i64 a0_4) ∧ w11.cell? ⟨gb1, 5, none⟩ = some (.slice A0_5 l0_5.length c0_5) := hS_
          refine norm_ (a' := ?_) ?_ ?_
          rotate_left
          · simp only [putAll, Act.put, List.setIfInBounds_toArray, List.set_cons_zero, List.set_cons_succ]
            rfl
          refine two_ (i := 12) (j := 14) (Ni := some 17) (Nj := some 3) #[true, true, true, true, true, true, true, true, true, true, true, true, true, false, false, false] #[true, true, true, true, true, true, true, true, true, true, true, true, false, false, true, false] rfl rfl rfl rfl (two_of HT_.out (by kernel_rfl)) (by decide) (by decide) (fun K hK => ?_) (fun K hK => ?_)
          · skip
            refine goes_ Try.func65 (by kernel_rfl) rfl #[.int .i64 a0_4, .int .i64 65536] (by rfl) rfl rfl (by (try simp only [List.map_toArray, List.map_cons, List.map_nil]); first | done | rfl | (simp only [List.length_drop, List.length_take]; rfl)) ?_
            with_reducible refine (plaitinglaw3_within.calls a0_4 65536 t6 _ A5.out).mono ?_
            rintro e w' ⟨rfl, ⟨nd, rfl⟩⟩
            refine ⟨_, rfl, ?_⟩
            refine hK.out _ _ ⟨(blk_cell BK1.out 0).trans rfl, (blk_cell BK1.out 1).trans rfl, (blk_cell BK1.out 2).trans rfl, (blk_cell BK1.out 3).trans rfl, (blk_cell BK1.out 4).trans rfl, (blk_cell BK1.out 5).trans rfl⟩ (fun hHeld => ?_)
            clear hK K
            refine norm_ (a' := ?_) ?_ ?_
            rotate_left
            · show Act.put _ (some 17) _ = _
              simp only [Act.put, List.setIfInBounds_toArray, List.set_cons_zero, List.set_cons_succ, i64_w, i32_w]
              rfl
            refine pure_ (i := 13) (N := some 18) (v := ?_) (a' := ?_) #[true, true, true, true, true, true, true, true, true, true, true, true, true, true, false, false] rfl rfl (any_of HT_.out (by kernel_rfl)) (fun _ _ _ h => h) (Or.inl ⟨by rfl, ?_⟩) ?_ ?_
            rotate_left
            · intro w'
              go_simp
              with_reducible rfl
            rotate_left
            · simp only [Act.put, List.setIfInBounds_toArray, List.set_cons_zero, List.set_cons_succ, i64_w, i32_w]
              rfl
            exact norm_ (by first | (simp only [putAll, Act.put, List.setIfInBounds_toArray, List.set_cons_zero, List.set_cons_succ]; done) | (simp only [putAll, Act.put, List.setIfInBounds_toArray, List.set_cons_zero, List.set_cons_succ]; rfl)) (hJ2_6_9_12 () _ ⟨hHeld, (by (with_reducible repeat (first | refine blk_drewN ?_ _ | refine blk_drew ?_ | refine blk_alloc ?_ _)); exact BK1.out), (by (with_reducible repeat (first | refine blk_drewN ?_ _ | refine blk_drew ?_ | refine blk_alloc ?_ _)); exact BK2.out), (by repeat (first | (with_reducible first | exact HB.out | apply below_alloc | apply pw_below_drewN | apply below_drew1 | refine below_set ?_ GE1.out | refine below_set ?_ GE2.out) | exact HB.out))⟩)
          · skip
            refine box_step ?hg (N := 3) ?hd (cs := #[.int .i64 0, .int .i64 0, .int .i64 0, .int .i64 0, .int .i64 0, .slice none 0 0]) (t := 24) ?hr ?_; (case hd => rfl); (case hg => rfl); (case hr => first | (go_simp; done) | (go_simp; rfl))
            intro gb7 hg w12 hbox hb
            have n0_ := Aside0.mk (blk_below (g := gb1) (o := .cells #[.int .i64 a0_0, .int .i64 a0_1, .int .i64 a0_2, .int .i64 a0_3, .int .i64 a0_4, .slice A0_5 l0_5.length c0_5] 24 (0, 0)) (by (with_reducible repeat (first | refine blk_drewN ?_ _ | refine blk_drew ?_ | refine blk_alloc ?_ _)); exact BK1.out) hb)
            have n1_ := Aside0.mk (blk_below (g := gb2) (o := .cells #[.int .i64 0, .int .i64 0, .int .i64 0, .int .i64 0, .int .i64 0, .slice none 0 0] 24 (0, 0)) (by (with_reducible repeat (first | refine blk_drewN ?_ _ | refine blk_drew ?_ | refine blk_alloc ?_ _)); exact BK2.out) hb)
            have n2_ := Aside0.mk (below_step (by repeat (first | (with_reducible first | exact HB.out | apply below_alloc | apply pw_below_drewN | apply below_drew1 | refine below_set ?_ GE1.out | refine below_set ?_ GE2.out) | exact HB.out)) hb)
            have n3_ := Aside0.mk (hbox)
            have n4_ := Aside0.mk ((by rw [hg]; exact (below_size (by repeat (first | (with_reducible first | exact HB.out | apply below_alloc | apply pw_below_drewN | apply below_drew1 | refine below_set ?_ GE1.out | refine below_set ?_ GE2.out) | exact HB.out))) : w.heap.size ≤ gb7))
            have n5_ := Aside0.mk ((by rw [hg]; exact (below_size (by repeat (first | (with_reducible first | exact HB.out | apply below_alloc | apply pw_below_drewN | apply below_drew1 | refine below_set ?_ GE1.out | refine below_set ?_ GE2.out) | exact HB.out))) : w.heap.size ≤ gb7))
            have n6_ := Aside0.mk ((by rw [hg]; exact Nat.ne_of_lt (blk_lt (g := gb1) (o := .cells #[.int .i64 a0_0, .int .i64 a0_1, .int .i64 a0_2, .int .i64 a0_3, .int .i64 a0_4, .slice A0_5 l0_5.length c0_5] 24 (0, 0)) (by (with_reducible repeat (first | refine blk_drewN ?_ _ | refine blk_drew ?_ | refine blk_alloc ?_ _)); exact BK1.out)) : gb1 ≠ gb7))
            have n7_ := Aside0.mk ((by rw [hg]; exact Nat.ne_of_gt (blk_lt (g := gb1) (o := .cells #[.int .i64 a0_0, .int .i64 a0_1, .int .i64 a0_2, .int .i64 a0_3, .int .i64 a0_4, .slice A0_5 l0_5.length c0_5] 24 (0, 0)) (by (with_reducible repeat (first | refine blk_drewN ?_ _ | refine blk_drew ?_ | refine blk_alloc ?_ _)); exact BK1.out)) : gb7 ≠ gb1))
            have n8_ := Aside0.mk ((by rw [hg]; exact Nat.ne_of_lt (blk_lt (g := gb2) (o := .cells #[.int .i64 0, .int .i64 0, .int .i64 0, .int .i64 0, .int .i64 0, .slice none 0 0] 24 (0, 0)) (by (with_reducible repeat (first | refine blk_drewN ?_ _ | refine blk_drew ?_ | refine blk_alloc ?_ _)); exact BK2.out)) : gb2 ≠ gb7))
            have n9_ := Aside0.mk ((by rw [hg]; exact Nat.ne_of_gt (blk_lt (g := gb2) (o := .cells #[.int .i64 0, .int .i64 0, .int .i64 0, .int .i64 0, .int .i64 0, .slice none 0 0] 24 (0, 0)) (by (with_reducible repeat (first | refine blk_drewN ?_ _ | refine blk_drew ?_ | refine blk_alloc ?_ _)); exact BK2.out)) : gb7 ≠ gb2))
            clear BK1
            clear BK2
            clear HB
            have BK1 := n0_
            have BK2 := n1_
            have HB := n2_
            have BK7 := n3_
            have GW7 := n4_
            have GE7 := n5_
            have NB1_7 := n6_
            have NB7_1 := n7_
            have NB2_7 := n8_
            have NB7_2 := n9_
            clear n0_ n1_ n2_ n3_ n4_ n5_ n6_ n7_ n8_ n9_
            clear hb hbox hg
            refine hK.out _ _ ⟨(blk_cell BK1.out 0).trans rfl, (blk_cell BK1.out 1).trans rfl, (blk_cell BK1.out 2).trans rfl, (blk_cell BK1.out 3).trans rfl, (blk_cell BK1.out 4).trans rfl, (blk_cell BK1.out 5).trans rfl⟩ (fun hHeld => ?_)
            clear hK K
            refine norm_ (a' := ?_) ?_ ?_
            rotate_left
            · show Act.put _ (some 3) _ = _
              simp only [Act.put, List.setIfInBounds_toArray, List.set_cons_zero, List.set_cons_succ, i64_w, i32_w]
              rfl
            exact norm_ (by first | (simp only [putAll, Act.put, List.setIfInBounds_toArray, List.set_cons_zero, List.set_cons_succ]; done) | (simp only [putAll, Act.put, List.setIfInBounds_toArray, List.set_cons_zero, List.set_cons_succ]; rfl)) (hJ2_6_9_14 (gb7) _ ⟨hHeld, (by (with_reducible repeat (first | refine blk_drewN ?_ _ | refine blk_drew ?_ | refine blk_alloc ?_ _)); exact BK1.out), (by (with_reducible repeat (first | refine blk_drewN ?_ _ | refine blk_drew ?_ | refine blk_alloc ?_ _)); exact BK2.out), (by (with_reducible repeat (first | refine blk_drewN ?_ _ | refine blk_drew ?_ | refine blk_alloc ?_ _)); exact BK7.out), GW7.out, GE7.out, NB1_7.out, NB7_1.out, NB2_7.out, NB7_2.out, (by repeat (first | (with_reducible first | exact HB.out | apply below_alloc | apply pw_below_drewN | apply below_drew1 | refine below_set ?_ GE1.out | refine below_set ?_ GE2.out | refine below_set ?_ GE7.out) | exact HB.out))⟩)
      · skip
        rintro gb7 w12 ⟨hS_, h0_, h1_, h2_, h3_, h4_, h5_, h6_, h7_, h8_, h9_⟩
        have n0_ : Aside0 (w12.heap[gb1]? = some (.cells #[.int .i64 a0_0, .int .i64 a0_1, .int .i64 a0_2, .int .i64 a0_3, .int .i64 a0_4, .slice A0_5 l0_5.length c0_5] 24 (0, 0))) := ⟨h0_⟩
        have n1_ : Aside0 (w12.heap[gb2]? = some (.cells #[.int .i64 0, .int .i64 0, .int .i64 0, .int .i64 0, .int .i64 0, .slice none 0 0] 24 (0, 0))) := ⟨h1_⟩
        have n2_ : Aside0 (w12.heap[gb7]? = some (.cells #[.int .i64 0, .int .i64 0, .int .i64 0, .int .i64 0, .int .i64 0, .slice none 0 0] 24 (0, 0))) := ⟨h2_⟩
        have n3_ : Aside0 (w.heap.size ≤ gb7) := ⟨h3_⟩
        have n4_ : Aside0 (w.heap.size ≤ gb7) := ⟨h4_⟩
        have n5_ : Aside0 (gb1 ≠ gb7) := ⟨h5_⟩
        have n6_ : Aside0 (gb7 ≠ gb1) := ⟨h6_⟩
        have n7_ : Aside0 (gb2 ≠ gb7) := ⟨h7_⟩
        have n8_ : Aside0 (gb7 ≠ gb2) := ⟨h8_⟩
        have n9_ : Aside0 (Below w.heap.size w w12) := ⟨h9_⟩
        clear BK1
        clear BK2
        clear HB
        clear h0_ h1_ h2_ h3_ h4_ h5_ h6_ h7_ h8_ h9_
        have BK1 := n0_
        have BK2 := n1_
        have BK7 := n2_
        have GW7 := n3_
        have GE7 := n4_
        have NB1_7 := n5_
        have NB7_1 := n6_
        have NB2_7 := n7_
        have NB7_2 := n8_
        have HB := n9_
        clear n0_ n1_ n2_ n3_ n4_ n5_ n6_ n7_ n8_ n9_
        have hHeld : w12.cell? ⟨gb1, 0, none⟩ = some (.int .i64 a0_0) ∧ w12.cell? ⟨gb1, 1, none⟩ = some (.int .i64 a0_1) ∧ w12.cell? ⟨gb1, 2, none⟩ = some (.int .i64 a0_2) ∧ w12.cell? ⟨gb1, 3, none⟩ = some (.int .i64 a0_3) ∧ w12.cell? ⟨gb1, 4, none⟩ = some (.int .i64 a0_4) ∧ w12.cell? ⟨gb1, 5, none⟩ = some (.slice A0_5 l0_5.length c0_5) := hS_
        refine norm_ (a' := ?_) ?_ ?_
        rotate_left
        · simp only [putAll, Act.put, List.setIfInBounds_toArray, List.set_cons_zero, List.set_cons_succ]
          rfl
        refine one_ (i := 12) (N := some 17) #[true, true, true, true, true, true, true, true, true, true, true, true, true, false, true, false] rfl rfl (one_of HT_.out (by kernel_rfl)) (by decide) (fun K hK => ?_)
        refine goes_ Try.func65 (by kernel_rfl) rfl #[.int .i64 a0_4, .int .i64 65536] (by rfl) rfl rfl (by (try simp only [List.map_toArray, List.map_cons, List.map_nil]); first | done | rfl | (simp only [List.length_drop, List.length_take]; rfl)) ?_
        with_reducible refine (plaitinglaw3_within.calls a0_4 65536 t6 _ A5.out).mono ?_
        rintro e w' ⟨rfl, ⟨nd, rfl⟩⟩
        refine ⟨_, rfl, ?_⟩
        refine hK.out _ _ ⟨(blk_cell BK1.out 0).trans rfl, (blk_cell BK1.out 1).trans rfl, (blk_cell BK1.out 2).trans rfl, (blk_cell BK1.out 3).trans rfl, (blk_cell BK1.out 4).trans rfl, (blk_cell BK1.out 5).trans rfl⟩ (fun hHeld => ?_)
        clear hK K
        refine norm_ (a' := ?_) ?_ ?_
        rotate_left
        · show Act.put _ (some 17) _ = _
          simp only [Act.put, List.setIfInBounds_toArray, List.set_cons_zero, List.set_cons_succ, i64_w, i32_w]
          rfl
        refine pure_ (i := 13) (N := some 18) (v := ?_) (a' := ?_) #[true, true, true, true, true, true, true, true, true, true, true, true, true, true, true, false] rfl rfl (any_of HT_.out (by kernel_rfl)) (fun _ _ _ h => h) (Or.inl ⟨by rfl, ?_⟩) ?_ ?_
        rotate_left
        · intro w'
          go_simp
          with_reducible rfl
        rotate_left
        · simp only [Act.put, List.setIfInBounds_toArray, List.set_cons_zero, List.set_cons_succ, i64_w, i32_w]
          rfl
        exact norm_ (by first | (simp only [putAll, Act.put, List.setIfInBounds_toArray, List.set_cons_zero, List.set_cons_succ]; done) | (simp only [putAll, Act.put, List.setIfInBounds_toArray, List.set_cons_zero, List.set_cons_succ]; rfl)) (hJ2_6_9_12_14 (gb7) _ ⟨hHeld, (by (with_reducible repeat (first | refine blk_drewN ?_ _ | refine blk_drew ?_ | refine blk_alloc ?_ _)); exact BK1.out), (by (with_reducible repeat (first | refine blk_drewN ?_ _ | refine blk_drew ?_ | refine blk_alloc ?_ _)); exact BK2.out), (by (with_reducible repeat (first | refine blk_drewN ?_ _ | refine blk_drew ?_ | refine blk_alloc ?_ _)); exact BK7.out), GW7.out, GE7.out, NB1_7.out, NB7_1.out, NB2_7.out, NB7_2.out, (by repeat (first | (with_reducible first | exact HB.out | apply below_alloc | apply pw_below_drewN | apply below_drew1 | refine below_set ?_ GE1.out | refine below_set ?_ GE2.out | refine below_set ?_ GE7.out) | exact HB.out))⟩)
    · skip
      rintro _ w11 ⟨hS_, h0_, h1_, h2_⟩
      have n0_ : Aside0 (w11.heap[gb1]? = some (.cells #[.int .i64 a0_0, .int .i64 a0_1, .int .i64 a0_2, .int .i64 a0_3, .int .i64 a0_4, .slice A0_5 l0_5.length c0_5] 24 (0, 0))) := ⟨h0_⟩
      have n1_ : Aside0 (w11.heap[gb2]? = some (.cells #[.int .i64 0, .int .i64 0, .int .i64 0, .int .i64 0, .int .i64 0, .slice none 0 0] 24 (0, 0))) := ⟨h1_⟩
      have n2_ : Aside0 (Below w.heap.size w w11) := ⟨h2_⟩
      clear BK1
      clear BK2
      clear HB
      clear h0_ h1_ h2_
      have BK1 := n0_
      have BK2 := n1_
      have HB := n2_
      clear n0_ n1_ n2_
      have hHeld : w11.cell? ⟨gb1, 0, none⟩ = some (.int .i64 a0_0) ∧ w11.cell? ⟨gb1, 1, none⟩ = some (.int .i64 a0_1) ∧ w11.cell? ⟨gb1, 2, none⟩ = some (.int .i64 a0_2) ∧ w11.cell? ⟨gb1, 3, none⟩ = some (.int .i64 a0_3) ∧ w11.cell? ⟨gb1, 4, none⟩ = some (.int .i64 a0_4) ∧ w11.cell? ⟨gb1, 5, none⟩ = some (.slice A0_5 l0_5.length c0_5) := hS_
      refine norm_ (a' := ?_) ?_ ?_
      rotate_left
      · simp only [putAll, Act.put, List.setIfInBounds_toArray, List.set_cons_zero, List.set_cons_succ]
        rfl
      refine one_ (i := 14) (N := some 3) #[true, true, true, true, true, true, true, true, true, true, true, true, true, true, true, false] rfl rfl (one_of HT_.out (by kernel_rfl)) (by decide) (fun K hK => ?_)
      refine box_step ?hg (N := 3) ?hd (cs := #[.int .i64 0, .int .i64 0, .int .i64 0, .int .i64 0, .int .i64 0, .slice none 0 0]) (t := 24) ?hr ?_; (case hd => rfl); (case hg => rfl); (case hr => first | (go_simp; done) | (go_simp; rfl))
      intro gb7 hg w12 hbox hb
      have n0_ := Aside0.mk (blk_below (g := gb1) (o := .cells #[.int .i64 a0_0, .int .i64 a0_1, .int .i64 a0_2, .int .i64 a0_3, .int .i64 a0_4, .slice A0_5 l0_5.length c0_5] 24 (0, 0)) (by (with_reducible repeat (first | refine blk_drewN ?_ _ | refine blk_drew ?_ | refine blk_alloc ?_ _)); exact BK1.out) hb)
      have n1_ := Aside0.mk (blk_below (g := gb2) (o := .cells #[.int .i64 0, .int .i64 0, .int .i64 0, .int .i64 0, .int .i64 0, .slice none 0 0] 24 (0, 0)) (by (with_reducible repeat (first | refine blk_drewN ?_ _ | refine blk_drew ?_ | refine blk_alloc ?_ _)); exact BK2.out) hb)
      have n2_ := Aside0.mk (below_step (by repeat (first | (with_reducible first | exact HB.out | apply below_alloc | apply pw_below_drewN | apply below_drew1 | refine below_set ?_ GE1.out | refine below_set ?_ GE2.out) | exact HB.out)) hb)
      have n3_ := Aside0.mk (hbox)
      have n4_ := Aside0.mk ((by rw [hg]; exact (below_size (by repeat (first | (with_reducible first | exact HB.out | apply below_alloc | apply pw_below_drewN | apply below_drew1 | refine below_set ?_ GE1.out | refine below_set ?_ GE2.out) | exact HB.out))) : w.heap.size ≤ gb7))
      have n5_ := Aside0.mk ((by rw [hg]; exact (below_size (by repeat (first | (with_reducible first | exact HB.out | apply below_alloc | apply pw_below_drewN | apply below_drew1 | refine below_set ?_ GE1.out | refine below_set ?_ GE2.out) | exact HB.out))) : w.heap.size ≤ gb7))
      have n6_ := Aside0.mk ((by rw [hg]; exact Nat.ne_of_lt (blk_lt (g := gb1) (o := .cells #[.int .i64 a0_0, .int .i64 a0_1, .int .i64 a0_2, .int .i64 a0_3, .int .i64 a0_4, .slice A0_5 l0_5.length c0_5] 24 (0, 0)) (by (with_reducible repeat (first | refine blk_drewN ?_ _ | refine blk_drew ?_ | refine blk_alloc ?_ _)); exact BK1.out)) : gb1 ≠ gb7))
      have n7_ := Aside0.mk ((by rw [hg]; exact Nat.ne_of_gt (blk_lt (g := gb1) (o := .cells #[.int .i64 a0_0, .int .i64 a0_1, .int .i64 a0_2, .int .i64 a0_3, .int .i64 a0_4, .slice A0_5 l0_5.length c0_5] 24 (0, 0)) (by (with_reducible repeat (first | refine blk_drewN ?_ _ | refine blk_drew ?_ | refine blk_alloc ?_ _)); exact BK1.out)) : gb7 ≠ gb1))
      have n8_ := Aside0.mk ((by rw [hg]; exact Nat.ne_of_lt (blk_lt (g := gb2) (o := .cells #[.int .i64 0, .int .i64 0, .int .i64 0, .int .i64 0, .int .i64 0, .slice none 0 0] 24 (0, 0)) (by (with_reducible repeat (first | refine blk_drewN ?_ _ | refine blk_drew ?_ | refine blk_alloc ?_ _)); exact BK2.out)) : gb2 ≠ gb7))
      have n9_ := Aside0.mk ((by rw [hg]; exact Nat.ne_of_gt (blk_lt (g := gb2) (o := .cells #[.int .i64 0, .int .i64 0, .int .i64 0, .int .i64 0, .int .i64 0, .slice none 0 0] 24 (0, 0)) (by (with_reducible repeat (first | refine blk_drewN ?_ _ | refine blk_drew ?_ | refine blk_alloc ?_ _)); exact BK2.out)) : gb7 ≠ gb2))
      clear BK1
      clear BK2
      clear HB
      have BK1 := n0_
      have BK2 := n1_
      have HB := n2_
      have BK7 := n3_
      have GW7 := n4_
      have GE7 := n5_
      have NB1_7 := n6_
      have NB7_1 := n7_
      have NB2_7 := n8_
      have NB7_2 := n9_
      clear n0_ n1_ n2_ n3_ n4_ n5_ n6_ n7_ n8_ n9_
      clear hb hbox hg
      refine hK.out _ _ ⟨(blk_cell BK1.out 0).trans rfl, (blk_cell BK1.out 1).trans rfl, (blk_cell BK1.out 2).trans rfl, (blk_cell BK1.out 3).trans rfl, (blk_cell BK1.out 4).trans rfl, (blk_cell BK1.out 5).trans rfl⟩ (fun hHeld => ?_)
      clear hK K
      refine norm_ (a' := ?_) ?_ ?_
      rotate_left
      · show Act.put _ (some 3) _ = _
        simp only [Act.put, List.setIfInBounds_toArray, List.set_cons_zero, List.set_cons_succ, i64_w, i32_w]
        rfl
      exact norm_ (by first | (simp only [putAll, Act.put, List.setIfInBounds_toArray, List.set_cons_zero, List.set_cons_succ]; done) | (simp only [putAll, Act.put, List.setIfInBounds_toArray, List.set_cons_zero, List.set_cons_succ]; rfl)) (hJ2_6_9_12_14 (gb7) _ ⟨hHeld, (by (with_reducible repeat (first | refine blk_drewN ?_ _ | refine blk_drew ?_ | refine blk_alloc ?_ _)); exact BK1.out), (by (with_reducible repeat (first | refine blk_drewN ?_ _ | refine blk_drew ?_ | refine blk_alloc ?_ _)); exact BK2.out), (by (with_reducible repeat (first | refine blk_drewN ?_ _ | refine blk_drew ?_ | refine blk_alloc ?_ _)); exact BK7.out), GW7.out, GE7.out, NB1_7.out, NB7_1.out, NB2_7.out, NB7_2.out, (by repeat (first | (with_reducible first | exact HB.out | apply below_alloc | apply pw_below_drewN | apply below_drew1 | refine below_set ?_ GE1.out | refine below_set ?_ GE2.out | refine below_set ?_ GE7.out) | exact HB.out))⟩)
  rintro gb7 w12 ⟨hS_, h0_, h1_, h2_, h3_, h4_, h5_, h6_, h7_, h8_, h9_⟩
  have n0_ : Aside0 (w12.heap[gb1]? = some (.cells #[.int .i64 a0_0, .int .i64 a0_1, .int .i64 a0_2, .int .i64 a0_3, .int .i64 a0_4, .slice A0_5 l0_5.length c0_5] 24 (0, 0))) := ⟨h0_⟩
  have n1_ : Aside0 (w12.heap[gb2]? = some (.cells #[.int .i64 0, .int .i64 0, .int .i64 0, .int .i64 0, .int .i64 0, .slice none 0 0] 24 (0, 0))) := ⟨h1_⟩
  have n2_ : Aside0 (w12.heap[gb7]? = some (.cells #[.int .i64 0, .int .i64 0, .int .i64 0, .int .i64 0, .int .i64 0, .slice none 0 0] 24 (0, 0))) := ⟨h2_⟩
  have n3_ : Aside0 (w.heap.size ≤ gb7) := ⟨h3_⟩
  have n4_ : Aside0 (w.heap.size ≤ gb7) := ⟨h4_⟩
  have n5_ : Aside0 (gb1 ≠ gb7) := ⟨h5_⟩
  have n6_ : Aside0 (gb7 ≠ gb1) := ⟨h6_⟩
  have n7_ : Aside0 (gb2 ≠ gb7) := ⟨h7_⟩
  have n8_ : Aside0 (gb7 ≠ gb2) := ⟨h8_⟩
  have n9_ : Aside0 (Below w.heap.size w w12) := ⟨h9_⟩
  clear BK1
  clear BK2
  clear HB
  clear h0_ h1_ h2_ h3_ h4_ h5_ h6_ h7_ h8_ h9_
  have BK1 := n0_
  have BK2 := n1_
  have BK7 := n2_
  have GW7 := n3_
  have GE7 := n4_
  have NB1_7 := n5_
  have NB7_1 := n6_
  have NB2_7 := n7_
  have NB7_2 := n8_
  have HB := n9_
  clear n0_ n1_ n2_ n3_ n4_ n5_ n6_ n7_ n8_ n9_
  have hHeld : w12.cell? ⟨gb1, 0, none⟩ = some (.int .i64 a0_0) ∧ w12.cell? ⟨gb1, 1, none⟩ = some (.int .i64 a0_1) ∧ w12.cell? ⟨gb1, 2, none⟩ = some (.int .i64 a0_2) ∧ w12.cell? ⟨gb1, 3, none⟩ = some (.int .i64 a0_3) ∧ w12.cell? ⟨gb1, 4, none⟩ = some (.int .i64 a0_4) ∧ w12.cell? ⟨gb1, 5, none⟩ = some (.slice A0_5 l0_5.length c0_5) := hS_
  refine norm_ (a' := ?_) ?_ ?_
  rotate_left
  · simp only [putAll, Act.put, List.setIfInBounds_toArray, List.set_cons_zero, List.set_cons_succ]
    rfl
  refine one_ (i := 15) (N := none) #[true, true, true, true, true, true, true, true, true, true, true, true, true, true, true, true] rfl rfl (one_of HT_.out (by kernel_rfl)) (by decide) (fun K hK => ?_)
  have hs13 : w12.cell? ⟨gb7, 0, none⟩ = some (.int .i64 0) := (blk_cell BK7.out 0).trans rfl
  have hfs13 := blk_frozen BK7.out 0
  have hns13_0 := NB1_7.out
  have hns13_1 := NB2_7.out
  have hms13_0 := NB7_1.out
  have hms13_1 := NB7_2.out
  have hs14 : w12.cell? ⟨gb7, 1, none⟩ = some (.int .i64 0) := (blk_cell BK7.out 1).trans rfl
  have hfs14 := blk_frozen BK7.out 1
  have hns14_0 := NB1_7.out
  have hns14_1 := NB2_7.out
  have hms14_0 := NB7_1.out
  have hms14_1 := NB7_2.out
  have hs15 : w12.cell? ⟨gb7, 2, none⟩ = some (.int .i64 0) := (blk_cell BK7.out 2).trans rfl
  have hfs15 := blk_frozen BK7.out 2
  have hns15_0 := NB1_7.out
  have hns15_1 := NB2_7.out
  have hms15_0 := NB7_1.out
  have hms15_1 := NB7_2.out
  have hs16 : w12.cell? ⟨gb7, 3, none⟩ = some (.int .i64 0) := (blk_cell BK7.out 3).trans rfl
  have hfs16 := blk_frozen BK7.out 3
  have hns16_0 := NB1_7.out
  have hns16_1 := NB2_7.out
  have hms16_0 := NB7_1.out
  have hms16_1 := NB7_2.out
  have hs17 : w12.cell? ⟨gb7, 4, none⟩ = some (.int .i64 0) := (blk_cell BK7.out 4).trans rfl
  have hfs17 := blk_frozen BK7.out 4
  have hns17_0 := NB1_7.out
  have hns17_1 := NB2_7.out
  have hms17_0 := NB7_1.out
  have hms17_1 := NB7_2.out
  have hs18 : w12.cell? ⟨gb7, 5, none⟩ = some (.slice none 0 0) := (blk_cell BK7.out 5).trans rfl
  have hfs18 := blk_frozen BK7.out 5
  have hns18_0 := NB1_7.out
  have hns18_1 := NB2_7.out
  have hms18_0 := NB7_1.out
  have hms18_1 := NB7_2.out
  refine skip_ (w1 := ?_) (by rfl) rfl ?_ ?_
  rotate_left
  · go_simp
    rfl
  refine hK.out _ _ ⟨((cell_far (p := ⟨gb7, _, none⟩) NB1_7.out _).trans (((cell_far (p := ⟨gb7, _, none⟩) NB1_7.out _).trans (((cell_far (p := ⟨gb7, _, none⟩) NB1_7.out _).trans (((cell_far (p := ⟨gb7, _, none⟩) NB1_7.out _).trans (((cell_far (p := ⟨gb7, _, none⟩) NB1_7.out _).trans (((cell_far (p := ⟨gb7, _, none⟩) NB1_7.out _).trans (hHeld.1)))))))))))), ((cell_far (p := ⟨gb7, _, none⟩) NB1_7.out _).trans (((cell_far (p := ⟨gb7, _, none⟩) NB1_7.out _).trans (((cell_far (p := ⟨gb7, _, none⟩) NB1_7.out _).trans (((cell_far (p := ⟨gb7, _, none⟩) NB1_7.out _).trans (((cell_far (p := ⟨gb7, _, none⟩) NB1_7.out _).trans (((cell_far (p := ⟨gb7, _, none⟩) NB1_7.out _).trans (hHeld.2.1)))))))))))), ((cell_far (p := ⟨gb7, _, none⟩) NB1_7.out _).trans (((cell_far (p := ⟨gb7, _, none⟩) NB1_7.out _).trans (((cell_far (p := ⟨gb7, _, none⟩) NB1_7.out _).trans (((cell_far (p := ⟨gb7, _, none⟩) NB1_7.out _).trans (((cell_far (p := ⟨gb7, _, none⟩) NB1_7.out _).trans (((cell_far (p := ⟨gb7, _, none⟩) NB1_7.out _).trans (hHeld.2.2.1)))))))))))), ((cell_far (p := ⟨gb7, _, none⟩) NB1_7.out _).trans (((cell_far (p := ⟨gb7, _, none⟩) NB1_7.out _).trans (((cell_far (p := ⟨gb7, _, none⟩) NB1_7.out _).trans (((cell_far (p := ⟨gb7, _, none⟩) NB1_7.out _).trans (((cell_far (p := ⟨gb7, _, none⟩) NB1_7.out _).trans (((cell_far (p := ⟨gb7, _, none⟩) NB1_7.out _).trans (hHeld.2.2.2.1)))))))))))), ((cell_far (p := ⟨gb7, _, none⟩) NB1_7.out _).trans (((cell_far (p := ⟨gb7, _, none⟩) NB1_7.out _).trans (((cell_far (p := ⟨gb7, _, none⟩) NB1_7.out _).trans (((cell_far (p := ⟨gb7, _, none⟩) NB1_7.out _).trans (((cell_far (p := ⟨gb7, _, none⟩) NB1_7.out _).trans (((cell_far (p := ⟨gb7, _, none⟩) NB1_7.out _).trans (hHeld.2.2.2.2.1)))))))))))), ((cell_far (p := ⟨gb7, _, none⟩) NB1_7.out _).trans (((cell_far (p := ⟨gb7, _, none⟩) NB1_7.out _).trans (((cell_far (p := ⟨gb7, _, none⟩) NB1_7.out _).trans (((cell_far (p := ⟨gb7, _, none⟩) NB1_7.out _).trans (((cell_far (p := ⟨gb7, _, none⟩) NB1_7.out _).trans (((cell_far (p := ⟨gb7, _, none⟩) NB1_7.out _).trans (hHeld.2.2.2.2.2))))))))))))⟩ (fun hHeld => ?_)
  clear hK K
  refine done_ (done_of HT_.out (by kernel_rfl)) ?_
  have hnb19 := NB1_2.out
  have hnc19 := NB2_1.out
  have hnb20 := NB1_7.out
  have hnc20 := NB7_1.out
  have hcz21_0 : w12.cell? ⟨gb1, 0, none⟩ = some (.int .i64 a0_0) := (blk_cell BK1.out 0).trans rfl
  have hcz21_1 : w12.cell? ⟨gb1, 1, none⟩ = some (.int .i64 a0_1) := (blk_cell BK1.out 1).trans rfl
  have hcz21_2 : w12.cell? ⟨gb1, 2, none⟩ = some (.int .i64 a0_2) := (blk_cell BK1.out 2).trans rfl
  have hcz21_3 : w12.cell? ⟨gb1, 3, none⟩ = some (.int .i64 a0_3) := (blk_cell BK1.out 3).trans rfl
  have hcz21_4 : w12.cell? ⟨gb1, 4, none⟩ = some (.int .i64 a0_4) := (blk_cell BK1.out 4).trans rfl
  have hcz21_5 : w12.cell? ⟨gb1, 5, none⟩ = some (.slice A0_5 l0_5.length c0_5) := (blk_cell BK1.out 5).trans rfl
  have hfz21_0 := blk_frozen BK1.out 0
  have hfz21_1 := blk_frozen BK1.out 1
  have hfz21_2 := blk_frozen BK1.out 2
  have hfz21_3 := blk_frozen BK1.out 3
  have hfz21_4 := blk_frozen BK1.out 4
  have hfz21_5 := blk_frozen BK1.out 5
  go_upto_if 22 with (first | ((with_reducible refine gate_callee (f := 65) rfl ?_); refine goesL_ (some 21) rfl rfl Try.func65 (by kernel_rfl) rfl #[.int .i64 a0_4, .int .i64 3] rfl (by (try simp only [List.map_toArray, List.map_cons, List.map_nil]); first | done | rfl | (simp only [List.length_drop, List.length_take]; rfl)) ?_; (with_reducible refine (plaitinglaw3_within.calls a0_4 3 t8 _ A6.out).mono ?_); rintro e w' ⟨rfl, ⟨nd, rfl⟩⟩; refine ⟨_, rfl, ?_⟩))
  (try simp only [Act.put, List.setIfInBounds_toArray, List.set_cons_zero, List.set_cons_succ])
  go_cut [] (fun wc => ∃ (kq : Nat) (x8004_6 : Int), Aside0 (plaitinglaw3_Make.j0 kq a0_0 a0_1 a0_2 a0_3 a0_4 l0_5 (wrap64 (6 + t3)) 0 t4 t5 x8004_6 = some (r1, r2, r3, r4, r5, r6)) ∧ Aside0 (kq ≤ k) ∧ Aside0 (wc.heap[gb1]? = some (.cells #[.int .i64 a0_0, .int .i64 a0_1, .int .i64 a0_2, .int .i64 a0_3, .int .i64 a0_4, (.slice A0_5 l0_5.length c0_5)] 24 (0, 0))) ∧ Aside0 (wc.heap[gb2]? = some (.cells #[.int .i64 0, .int .i64 0, .int .i64 0, .int .i64 0, .int .i64 0, (.slice none 0 0)] 24 (0, 0))) ∧ Aside0 (wc.heap[gb7]? = some (.cells #[.int .i64 (wrap64 (6 + t3)), .int .i64 0, .int .i64 t4, .int .i64 t5, .int .i64 x8004_6, (.slice none 0 0)] 24 (0, 0))) ∧ Aside0 (Below w.heap.size w wc))
  case first =>
    have H := HC7.out
    clear HC7
    by_cases c22 : t8 = 0
    · rw [if_pos c22] at H
      have c22b0 : (t8 == 0) = true := beq_iff_eq.mpr c22
      have c22b1 : (t8 != 0) = false := bne_eq_false_iff_eq.mpr c22
      clear c22
      (first | rw [c22b0] | (simp only [i64_w, i32_w]; rw [c22b0]) | skip)
      replace H := Option.bind_eq_some_iff.mp H
      obtain ⟨t9, A230, H⟩ := H
      replace H : (plaitinglaw3_Make.j0 k a0_0 a0_1 a0_2 a0_3 a0_4 l0_5 (wrap64 (6 + t3)) 0 t4 t5 (wrap64 (65535 - t9))) = some (r1, r2, r3, r4, r5, r6) := H
      have A23 := Aside0.mk A230
      clear A230
      have H' := Aside0.mk H
      clear H
      have hnb24 := NB1_2.out
      have hnc24 := NB2_1.out
      have hnb25 := NB1_7.out
      have hnc25 := NB7_1.out
      have hcz26_0 : w12.cell? ⟨gb1, 0, none⟩ = some (.int .i64 a0_0) := (blk_cell BK1.out 0).trans rfl
      have hcz26_1 : w12.cell? ⟨gb1, 1, none⟩ = some (.int .i64 a0_1) := (blk_cell BK1.out 1).trans rfl
      have hcz26_2 : w12.cell? ⟨gb1, 2, none⟩ = some (.int .i64 a0_2) := (blk_cell BK1.out 2).trans rfl
      have hcz26_3 : w12.cell? ⟨gb1, 3, none⟩ = some (.int .i64 a0_3) := (blk_cell BK1.out 3).trans rfl
      have hcz26_4 : w12.cell? ⟨gb1, 4, none⟩ = some (.int .i64 a0_4) := (blk_cell BK1.out 4).trans rfl
      have hcz26_5 : w12.cell? ⟨gb1, 5, none⟩ = some (.slice A0_5 l0_5.length c0_5) := (blk_cell BK1.out 5).trans rfl
      have hfz26_0 := blk_frozen BK1.out 0
      have hfz26_1 := blk_frozen BK1.out 1
      have hfz26_2 := blk_frozen BK1.out 2
      have hfz26_3 := blk_frozen BK1.out 3
      have hfz26_4 := blk_frozen BK1.out 4
      have hfz26_5 := blk_frozen BK1.out 5
      go_wp2_with (first | ((with_reducible refine gate_callee (f := 65) rfl ?_); refine goesL_ (some 25) rfl rfl Try.func65 (by kernel_rfl) rfl #[.int .i64 a0_4, .int .i64 40] rfl (by (try simp only [List.map_toArray, List.map_cons, List.map_nil]); first | done | rfl | (simp only [List.length_drop, List.length_take]; rfl)) ?_; (with_reducible refine (plaitinglaw3_within.calls a0_4 40 t9 _ A23.out).mono ?_); rintro e w' ⟨rfl, ⟨nd, rfl⟩⟩; refine ⟨_, rfl, ?_⟩; have hnb27 := NB7_2.out; have hnc27 := NB2_7.out; have hcz28_0 : w12.cell? ⟨gb7, 0, none⟩ = some (.int .i64 0) := (blk_cell BK7.out 0).trans rfl; have hcz28_1 : w12.cell? ⟨gb7, 1, none⟩ = some (.int .i64 0) := (blk_cell BK7.out 1).trans rfl; have hcz28_2 : w12.cell? ⟨gb7, 2, none⟩ = some (.int .i64 0) := (blk_cell BK7.out 2).trans rfl; have hcz28_3 : w12.cell? ⟨gb7, 3, none⟩ = some (.int .i64 0) := (blk_cell BK7.out 3).trans rfl; have hcz28_4 : w12.cell? ⟨gb7, 4, none⟩ = some (.int .i64 0) := (blk_cell BK7.out 4).trans rfl; have hcz28_5 : w12.cell? ⟨gb7, 5, none⟩ = some (.slice none 0 0) := (blk_cell BK7.out 5).trans rfl; have hfz28_0 := blk_frozen BK7.out 0; have hfz28_1 := blk_frozen BK7.out 1; have hfz28_2 := blk_frozen BK7.out 2; have hfz28_3 := blk_frozen BK7.out 3; have hfz28_4 := blk_frozen BK7.out 4; have hfz28_5 := blk_frozen BK7.out 5))
      go_meet
      case rel => exact ⟨_, (wrap64 (65535 - t9)), H', ⟨by first | omega | exact Nat.le_refl _⟩, ⟨by (with_reducible repeat (first | refine blk_drewN ?_ _ | refine blk_drew ?_ | refine blk_alloc ?_ _)); refine blk_far ?_ NB1_7.out _; (with_reducible repeat (first | refine blk_drewN ?_ _ | refine blk_drew ?_ | refine blk_alloc ?_ _)); refine blk_far ?_ NB1_7.out _; (with_reducible repeat (first | refine blk_drewN ?_ _ | refine blk_drew ?_ | refine blk_alloc ?_ _)); refine blk_far ?_ NB1_7.out _; (with_reducible repeat (first | refine blk_drewN ?_ _ | refine blk_drew ?_ | refine blk_alloc ?_ _)); refine blk_far ?_ NB1_7.out _; (with_reducible repeat (first | refine blk_drewN ?_ _ | refine blk_drew ?_ | refine blk_alloc ?_ _)); refine blk_far ?_ NB1_7.out _; (with_reducible repeat (first | refine blk_drewN ?_ _ | refine blk_drew ?_ | refine blk_alloc ?_ _)); refine blk_far ?_ NB1_7.out _; (with_reducible repeat (first | refine blk_drewN ?_ _ | refine blk_drew ?_ | refine blk_alloc ?_ _)); refine blk_far ?_ NB1_7.out _; (with_reducible repeat (first | refine blk_drewN ?_ _ | refine blk_drew ?_ | refine blk_alloc ?_ _)); exact BK1.out⟩, ⟨by (with_reducible repeat (first | refine blk_drewN ?_ _ | refine blk_drew ?_ | refine blk_alloc ?_ _)); refine blk_far ?_ NB2_7.out _; (with_reducible repeat (first | refine blk_drewN ?_ _ | refine blk_drew ?_ | refine blk_alloc ?_ _)); refine blk_far ?_ NB2_7.out _; (with_reducible repeat (first | refine blk_drewN ?_ _ | refine blk_drew ?_ | refine blk_alloc ?_ _)); refine blk_far ?_ NB2_7.out _; (with_reducible repeat (first | refine blk_drewN ?_ _ | refine blk_drew ?_ | refine blk_alloc ?_ _)); refine blk_far ?_ NB2_7.out _; (with_reducible repeat (first | refine blk_drewN ?_ _ | refine blk_drew ?_ | refine blk_alloc ?_ _)); refine blk_far ?_ NB2_7.out _; (with_reducible repeat (first | refine blk_drewN ?_ _ | refine blk_drew ?_ | refine blk_alloc ?_ _)); refine blk_far ?_ NB2_7.out _; (with_reducible repeat (first | refine blk_drewN ?_ _ | refine blk_drew ?_ | refine blk_alloc ?_ _)); refine blk_far ?_ NB2_7.out _; (with_reducible repeat (first | refine blk_drewN ?_ _ | refine blk_drew ?_ | refine blk_alloc ?_ _)); exact BK2.out⟩, ⟨by (with_reducible repeat (first | refine blk_drewN ?_ _ | refine blk_drew ?_ | refine blk_alloc ?_ _)); refine blk_put (cs := #[.int .i64 (wrap64 (6 + t3)), .int .i64 0, .int .i64 t4, .int .i64 t5, .int .i64 t6, .slice none 0 0]) ?_ 4 _ rfl; (with_reducible repeat (first | refine blk_drewN ?_ _ | refine blk_drew ?_ | refine blk_alloc ?_ _)); refine blk_put (cs := #[.int .i64 (wrap64 (6 + t3)), .int .i64 0, .int .i64 t4, .int .i64 t5, .int .i64 t6, .slice none 0 0]) ?_ 5 _ rfl; (with_reducible repeat (first | refine blk_drewN ?_ _ | refine blk_drew ?_ | refine blk_alloc ?_ _)); refine blk_put (cs := #[.int .i64 (wrap64 (6 + t3)), .int .i64 0, .int .i64 t4, .int .i64 t5, .int .i64 0, .slice none 0 0]) ?_ 4 _ rfl; (with_reducible repeat (first | refine blk_drewN ?_ _ | refine blk_drew ?_ | refine blk_alloc ?_ _)); refine blk_put (cs := #[.int .i64 (wrap64 (6 + t3)), .int .i64 0, .int .i64 t4, .int .i64 0, .int .i64 0, .slice none 0 0]) ?_ 3 _ rfl; (with_reducible repeat (first | refine blk_drewN ?_ _ | refine blk_drew ?_ | refine blk_alloc ?_ _)); refine blk_put (cs := #[.int .i64 (wrap64 (6 + t3)), .int .i64 0, .int .i64 0, .int .i64 0, .int .i64 0, .slice none 0 0]) ?_ 2 _ rfl; (with_reducible repeat (first | refine blk_drewN ?_ _ | refine blk_drew ?_ | refine blk_alloc ?_ _)); refine blk_put (cs := #[.int .i64 (wrap64 (6 + t3)), .int .i64 0, .int .i64 0, .int .i64 0, .int .i64 0, .slice none 0 0]) ?_ 1 _ rfl; (with_reducible repeat (first | refine blk_drewN ?_ _ | refine blk_drew ?_ | refine blk_alloc ?_ _)); refine blk_put (cs := #[.int .i64 0, .int .i64 0, .int .i64 0, .int .i64 0, .int .i64 0, .slice none 0 0]) ?_ 0 _ rfl; (with_reducible repeat (first | refine blk_drewN ?_ _ | refine blk_drew ?_ | refine blk_alloc ?_ _)); exact BK7.out⟩, ⟨by repeat (first | (with_reducible first | exact HB.out | apply below_alloc | apply pw_below_drewN | apply below_drew1 | refine below_set ?_ GE1.out | refine below_set ?_ GE2.out | refine below_set ?_ GE7.out) | exact HB.out)⟩⟩
    · rw [if_neg c22] at H
      have c22b0 : (t8 == 0) = false := beq_eq_false_iff_ne.mpr c22
      have c22b1 : (t8 != 0) = true := bne_iff_ne.mpr c22
      (first | rw [c22b0] | (simp only [i64_w, i32_w]; rw [c22b0]) | skip)
      have H' := Aside0.mk H
      clear H
      go_wp2
      go_meet
      case rel => exact ⟨_, (t6), H', ⟨by first | omega | exact Nat.le_refl _⟩, ⟨by (with_reducible repeat (first | refine blk_drewN ?_ _ | refine blk_drew ?_ | refine blk_alloc ?_ _)); refine blk_far ?_ NB1_7.out _; (with_reducible repeat (first | refine blk_drewN ?_ _ | refine blk_drew ?_ | refine blk_alloc ?_ _)); refine blk_far ?_ NB1_7.out _; (with_reducible repeat (first | refine blk_drewN ?_ _ | refine blk_drew ?_ | refine blk_alloc ?_ _)); refine blk_far ?_ NB1_7.out _; (with_reducible repeat (first | refine blk_drewN ?_ _ | refine blk_drew ?_ | refine blk_alloc ?_ _)); refine blk_far ?_ NB1_7.out _; (with_reducible repeat (first | refine blk_drewN ?_ _ | refine blk_drew ?_ | refine blk_alloc ?_ _)); refine blk_far ?_ NB1_7.out _; (with_reducible repeat (first | refine blk_drewN ?_ _ | refine blk_drew ?_ | refine blk_alloc ?_ _)); refine blk_far ?_ NB1_7.out _; (with_reducible repeat (first | refine blk_drewN ?_ _ | refine blk_drew ?_ | refine blk_alloc ?_ _)); exact BK1.out⟩, ⟨by (with_reducible repeat (first | refine blk_drewN ?_ _ | refine blk_drew ?_ | refine blk_alloc ?_ _)); refine blk_far ?_ NB2_7.out _; (with_reducible repeat (first | refine blk_drewN ?_ _ | refine blk_drew ?_ | refine blk_alloc ?_ _)); refine blk_far ?_ NB2_7.out _; (with_reducible repeat (first | refine blk_drewN ?_ _ | refine blk_drew ?_ | refine blk_alloc ?_ _)); refine blk_far ?_ NB2_7.out _; (with_reducible repeat (first | refine blk_drewN ?_ _ | refine blk_drew ?_ | refine blk_alloc ?_ _)); refine blk_far ?_ NB2_7.out _; (with_reducible repeat (first | refine blk_drewN ?_ _ | refine blk_drew ?_ | refine blk_alloc ?_ _)); refine blk_far ?_ NB2_7.out _; (with_reducible repeat (first | refine blk_drewN ?_ _ | refine blk_drew ?_ | refine blk_alloc ?_ _)); refine blk_far ?_ NB2_7.out _; (with_reducible repeat (first | refine blk_drewN ?_ _ | refine blk_drew ?_ | refine blk_alloc ?_ _)); exact BK2.out⟩, ⟨by (with_reducible repeat (first | refine blk_drewN ?_ _ | refine blk_drew ?_ | refine blk_alloc ?_ _)); refine blk_put (cs := #[.int .i64 (wrap64 (6 + t3)), .int .i64 0, .int .i64 t4, .int .i64 t5, .int .i64 t6, .slice none 0 0]) ?_ 5 _ rfl; (with_reducible repeat (first | refine blk_drewN ?_ _ | refine blk_drew ?_ | refine blk_alloc ?_ _)); refine blk_put (cs := #[.int .i64 (wrap64 (6 + t3)), .int .i64 0, .int .i64 t4, .int .i64 t5, .int .i64 0, .slice none 0 0]) ?_ 4 _ rfl; (with_reducible repeat (first | refine blk_drewN ?_ _ | refine blk_drew ?_ | refine blk_alloc ?_ _)); refine blk_put (cs := #[.int .i64 (wrap64 (6 + t3)), .int .i64 0, .int .i64 t4, .int .i64 0, .int .i64 0, .slice none 0 0]) ?_ 3 _ rfl; (with_reducible repeat (first | refine blk_drewN ?_ _ | refine blk_drew ?_ | refine blk_alloc ?_ _)); refine blk_put (cs := #[.int .i64 (wrap64 (6 + t3)), .int .i64 0, .int .i64 0, .int .i64 0, .int .i64 0, .slice none 0 0]) ?_ 2 _ rfl; (with_reducible repeat (first | refine blk_drewN ?_ _ | refine blk_drew ?_ | refine blk_alloc ?_ _)); refine blk_put (cs := #[.int .i64 (wrap64 (6 + t3)), .int .i64 0, .int .i64 0, .int .i64 0, .int .i64 0, .slice none 0 0]) ?_ 1 _ rfl; (with_reducible repeat (first | refine blk_drewN ?_ _ | refine blk_drew ?_ | refine blk_alloc ?_ _)); refine blk_put (cs := #[.int .i64 0, .int .i64 0, .int .i64 0, .int .i64 0, .int .i64 0, .slice none 0 0]) ?_ 0 _ rfl; (with_reducible repeat (first | refine blk_drewN ?_ _ | refine blk_drew ?_ | refine blk_alloc ?_ _)); exact BK7.out⟩, ⟨by repeat (first | (with_reducible first | exact HB.out | apply below_alloc | apply pw_below_drewN | apply below_drew1 | refine below_set ?_ GE1.out | refine below_set ?_ GE2.out | refine below_set ?_ GE7.out) | exact HB.out)⟩⟩
  case rest =>
    clear HC7
    try clear c1
    try clear c2
    try clear p2
    try clear c6
    try clear p6
    try clear c19
    try clear c20
    try clear c22
    try clear c22b0
    try clear c22b1
    try clear c24
    try clear c25
    try clear c27
    try clear hcz21_0
    try clear hcz21_1
    try clear hcz21_2
    try clear hcz21_3
    try clear hcz21_4
    try clear hcz21_5
    try clear hcz26_0
    try clear hcz26_1
    try clear hcz26_2
    try clear hcz26_3
    try clear hcz26_4
    try clear hcz26_5
    try clear hcz28_0
    try clear hcz28_1
    try clear hcz28_2
    try clear hcz28_3
    try clear hcz28_4
    try clear hcz28_5
    try clear hfz21_0
    try clear hfz21_1
    try clear hfz21_2
    try clear hfz21_3
    try clear hfz21_4
    try clear hfz21_5
    try clear hfz26_0
    try clear hfz26_1
    try clear hfz26_2
    try clear hfz26_3
    try clear hfz26_4
    try clear hfz26_5
    try clear hfz28_0
    try clear hfz28_1
    try clear hfz28_2
    try clear hfz28_3
    try clear hfz28_4
    try clear hfz28_5
    obtain ⟨kq, x8004_6, HA, HJ6, BK1, BK2, BK7, HB⟩ := hcut
    cases kq with
    | zero => exact absurd HA.out (by simp [plaitinglaw3_Make.j0])
    | succ kj6 =>
      have H := HA.out
      clear HA
      simp only [plaitinglaw3_Make.j0] at H
      replace H := Option.bind_eq_some_iff.mp H
      obtain ⟨t10, A290, H⟩ := H
      replace H : (plaitinglaw3_Make.l0 kj6 0 a0_0 a0_1 a0_2 a0_3 a0_4 l0_5 (wrap64 (6 + t3)) (wrap64 ((wrap64 (4 * (wrap64 ((wrap64 (t4 + t5)) + 1)))) + t10)) t4 t5 x8004_6 ([] : List Int)) = some (r1, r2, r3, r4, r5, r6) := H
      have A29 := Aside0.mk A290
      clear A290
      have H' := Aside0.mk H
      clear H
      try go_wp2
      have n0_ := Aside0.mk (blk_drew BK1.out)
      have n1_ := Aside0.mk (blk_drew BK2.out)
      have n2_ := Aside0.mk (blk_drew BK7.out)
      have n3_ := Aside0.mk (below_drew1 HB.out)
      clear BK1
      clear BK2
      clear BK7
      clear HB
      have BK1 := n0_
      have BK2 := n1_
      have BK7 := n2_
      have HB := n3_
      clear n0_ n1_ n2_ n3_
      refine start_ (n := 13) (S := fun w' => w'.cell? ⟨gb7, 0, none⟩ = some (.int .i64 (wrap64 (6 + t3))) ∧ w'.cell? ⟨gb7, 1, none⟩ = some (.int .i64 0) ∧ w'.cell? ⟨gb7, 2, none⟩ = some (.int .i64 t4) ∧ w'.cell? ⟨gb7, 3, none⟩ = some (.int .i64 t5) ∧ w'.cell? ⟨gb7, 4, none⟩ = some (.int .i64 x8004_6) ∧ w'.cell? ⟨gb7, 5, none⟩ = some (.slice none 0 0) ∧ w'.cell? ⟨gb1, 0, none⟩ = some (.int .i64 a0_0) ∧ w'.cell? ⟨gb1, 1, none⟩ = some (.int .i64 a0_1) ∧ w'.cell? ⟨gb1, 2, none⟩ = some (.int .i64 a0_2) ∧ w'.cell? ⟨gb1, 3, none⟩ = some (.int .i64 a0_3) ∧ w'.cell? ⟨gb1, 4, none⟩ = some (.int .i64 a0_4) ∧ w'.cell? ⟨gb1, 5, none⟩ = some (.slice A0_5 l0_5.length c0_5)) (ds := [12]) #[false, false, false, false, false, false, false, false, false, false, false, false, false] (by kernel_rfl) rfl rfl ⟨(blk_cell BK7.out 0).trans rfl, (blk_cell BK7.out 1).trans rfl, (blk_cell BK7.out 2).trans rfl, (blk_cell BK7.out 3).trans rfl, (blk_cell BK7.out 4).trans rfl, (blk_cell BK7.out 5).trans rfl, (blk_cell BK1.out 0).trans rfl, (blk_cell BK1.out 1).trans rfl, (blk_cell BK1.out 2).trans rfl, (blk_cell BK1.out 3).trans rfl, (blk_cell BK1.out 4).trans rfl, (blk_cell BK1.out 5).trans rfl⟩ (fun hHeld => ?_); refine with_tabW plaitinglaw3_Make.tab4 plaitinglaw3_Make.bits4 (fun HT_ HW_ => ?_)
      generalize wc.drew = w30 at BK1 BK2 BK7 HB hHeld ⊢
      refine pure_ (i := 0) (N := some 28) (v := ?_) (a' := ?_) #[true, false, false, false, false, false, false, false, false, false, false, false, false] rfl rfl (any_of HT_.out (by kernel_rfl)) (fun _ _ _ h => h) (Or.inl ⟨by rfl, ?_⟩) ?_ ?_
      rotate_left
      · intro w'
        go_simp
        with_reducible rfl
      rotate_left
      · simp only [Act.put, List.setIfInBounds_toArray, List.set_cons_zero, List.set_cons_succ, i64_w, i32_w]
        rfl
      refine pure_ (i := 2) (N := some 30) (v := ?_) (a' := ?_) #[true, false, true, false, false, false, false, false, false, false, false, false, false] rfl rfl (any_of HT_.out (by kernel_rfl)) (fun _ _ _ h => h) (Or.inl ⟨by rfl, ?_⟩) ?_ ?_
      rotate_left
      · intro w'
        go_simp
        with_reducible rfl
      rotate_left
      · simp only [Act.put, List.setIfInBounds_toArray, List.set_cons_zero, List.set_cons_succ, i64_w, i32_w]
        rfl
      refine pure_ (i := 7) (N := some 35) (v := ?_) (a' := ?_) #[true, false, true, false, false, false, false, true, false, false, false, false, false] rfl rfl (any_of HT_.out (by kernel_rfl)) (fun _ _ _ h => h) (Or.inl ⟨by rfl, ?_⟩) ?_ ?_
      rotate_left
      · intro w'
        go_simp
        with_reducible rfl
      rotate_left
      · simp only [Act.put, List.setIfInBounds_toArray, List.set_cons_zero, List.set_cons_succ, i64_w, i32_w]
        rfl
      refine take_ (i := 1) (N := some 29) (v := ?_) (a' := ?_) #[true, true, true, false, false, false, false, true, false, false, false, false, false] rfl rfl (take_ofW HT_.out HW_.out (by kernel_rfl)) (fun _ _ _ h => h) (Or.inl ⟨by rfl, ?_⟩) hHeld ?_ ?_
      rotate_left
      · rintro w' ⟨s0, s1, s2, s3, s4, s5, s6, s7, s8, s9, s10, s11⟩
        go_simp
        with_reducible rfl
      rotate_left
      · simp only [Act.put, List.setIfInBounds_toArray, List.set_cons_zero, List.set_cons_succ, i64_w, i32_w]
        rfl
      refine take_ (i := 3) (N := some 31) (v := ?_) (a' := ?_) #[true, true, true, true, false, false, false, true, false, false, false, false, false] rfl rfl (take_ofW HT_.out HW_.out (by kernel_rfl)) (fun _ _ _ h => h) (Or.inl ⟨by rfl, ?_⟩) hHeld ?_ ?_
      rotate_left
      · rintro w' ⟨s0, s1, s2, s3, s4, s5, s6, s7, s8, s9, s10, s11⟩
        go_simp
        with_reducible rfl
      rotate_left
      · simp only [Act.put, List.setIfInBounds_toArray, List.set_cons_zero, List.set_cons_succ, i64_w, i32_w]
        rfl
      refine pure_ (i := 4) (N := some 32) (v := ?_) (a' := ?_) #[true, true, true, true, true, false, false, true, false, false, false, false, false] rfl rfl (any_of HT_.out (by kernel_rfl)) (fun _ _ _ h => h) (Or.inl ⟨by rfl, ?_⟩) ?_ ?_
      rotate_left
      · intro w'
        go_simp
        with_reducible rfl
      rotate_left
      · simp only [Act.put, List.setIfInBounds_toArray, List.set_cons_zero, List.set_cons_succ, i64_w, i32_w]
        rfl
      refine pure_ (i := 5) (N := some 33) (v := ?_) (a' := ?_) #[true, true, true, true, true, true, false, true, false, false, false, false, false] rfl rfl (any_of HT_.out (by kernel_rfl)) (fun _ _ _ h => h) (Or.inl ⟨by rfl, ?_⟩) ?_ ?_
      rotate_left
      · intro w'
        go_simp
        with_reducible rfl
      rotate_left
      · simp only [Act.put, List.setIfInBounds_toArray, List.set_cons_zero, List.set_cons_succ, i64_w, i32_w]
        rfl
      refine pure_ (i := 6) (N := some 34) (v := ?_) (a' := ?_) #[true, true, true, true, true, true, true, true, false, false, false, false, false] rfl rfl (any_of HT_.out (by kernel_rfl)) (fun _ _ _ h => h) (Or.inl ⟨by rfl, ?_⟩) ?_ ?_
      rotate_left
      · intro w'
        go_simp
        with_reducible rfl
      rotate_left
      · simp only [Act.put, List.setIfInBounds_toArray, List.set_cons_zero, List.set_cons_succ, i64_w, i32_w]
        rfl
      refine take_ (i := 8) (N := some 36) (v := ?_) (a' := ?_) #[true, true, true, true, true, true, true, true, true, false, false, false, false] rfl rfl (take_ofW HT_.out HW_.out (by kernel_rfl)) (fun _ _ _ h => h) (Or.inl ⟨by rfl, ?_⟩) hHeld ?_ ?_
      rotate_left
      · rintro w' ⟨s0, s1, s2, s3, s4, s5, s6, s7, s8, s9, s10, s11⟩
        go_simp
        with_reducible rfl
      rotate_left
      · simp only [Act.put, List.setIfInBounds_toArray, List.set_cons_zero, List.set_cons_succ, i64_w, i32_w]
        rfl
      refine one_ (i := 9) (N := some 37) #[true, true, true, true, true, true, true, true, true, true, false, false, false] rfl rfl (one_of HT_.out (by kernel_rfl)) (by decide) (fun K hK => ?_)
      refine goes_ Try.func65 (by kernel_rfl) rfl #[.int .i64 a0_1, .int .i64 100] (by rfl) rfl rfl (by (try simp only [List.map_toArray, List.map_cons, List.map_nil]); first | done | rfl | (simp only [List.length_drop, List.length_take]; rfl)) ?_
      with_reducible refine (plaitinglaw3_within.calls a0_1 100 t10 _ A29.out).mono ?_
      rintro e w' ⟨rfl, ⟨nd, rfl⟩⟩
      refine ⟨_, rfl, ?_⟩
      refine hK.out _ _ ⟨(blk_cell BK7.out 0).trans rfl, (blk_cell BK7.out 1).trans rfl, (blk_cell BK7.out 2).trans rfl, (blk_cell BK7.out 3).trans rfl, (blk_cell BK7.out 4).trans rfl, (blk_cell BK7.out 5).trans rfl, (blk_cell BK1.out 0).trans rfl, (blk_cell BK1.out 1).trans rfl, (blk_cell BK1.out 2).trans rfl, (blk_cell BK1.out 3).trans rfl, (blk_cell BK1.out 4).trans rfl, (blk_cell BK1.out 5).trans rfl⟩ (fun hHeld => ?_)
      clear hK K
      refine norm_ (a' := ?_) ?_ ?_
      rotate_left
      · show Act.put _ (some 37) _ = _
        simp only [Act.put, List.setIfInBounds_toArray, List.set_cons_zero, List.set_cons_succ, i64_w, i32_w]
        rfl
      refine pure_ (i := 10) (N := some 38) (v := ?_) (a' := ?_) #[true, true, true, true, true, true, true, true, true, true, true, false, false] rfl rfl (any_of HT_.out (by kernel_rfl)) (fun _ _ _ h => h) (Or.inl ⟨by rfl, ?_⟩) ?_ ?_
      rotate_left
      · intro w'
        go_simp
        with_reducible rfl
      rotate_left
      · simp only [Act.put, List.setIfInBounds_toArray, List.set_cons_zero, List.set_cons_succ, i64_w, i32_w]
        rfl
      refine pure_ (i := 11) (N := some 39) (v := ?_) (a' := ?_) #[true, true, true, true, true, true, true, true, true, true, true, true, false] rfl rfl (any_of HT_.out (by kernel_rfl)) (fun _ _ _ h => h) (Or.inl ⟨by rfl, ?_⟩) ?_ ?_
      rotate_left
      · intro w'
        go_simp
        with_reducible rfl
      rotate_left
      · simp only [Act.put, List.setIfInBounds_toArray, List.set_cons_zero, List.set_cons_succ, i64_w, i32_w]
        rfl
      refine last_ (i := 12) (N := none) #[true, true, true, true, true, true, true, true, true, true, true, true, true] rfl rfl (one_of HT_.out (by kernel_rfl)) (by decide) (fun K hK => ?_)
      have hs31 : w30.cell? ⟨gb7, 1, none⟩ = some (.int .i64 0) := (blk_cell BK7.out 1).trans rfl
      have hfs31 := blk_frozen BK7.out 1
      have hns31_0 := NB1_7.out
      have hns31_1 := NB2_7.out
      have hms31_0 := NB7_1.out
      have hms31_1 := NB7_2.out
      refine skip_ (w1 := ?_) (by rfl) rfl ?_ ?_
      rotate_left
      · go_simp
        rfl
      refine hK.out _ _ ?_
      clear hK K
      refine done_ (done_of HT_.out (by kernel_rfl)) ?_
      try go_wp2
      go_loopg [4] kj6 (fun kq v4 w' => ∃ (x4_2 : Int) (x8005_2 : List Int) (u8005 : Value), v4 = .int .i64 x4_2 ∧ Aside0 (plaitinglaw3_Make.l0 kq x4_2 a0_0 a0_1 a0_2 a0_3 a0_4 l0_5 (wrap64 (6 + t3)) (wrap64 ((wrap64 (4 * (wrap64 ((wrap64 (t4 + t5)) + 1)))) + t10)) t4 t5 x8004_6 x8005_2 = some (r1, r2, r3, r4, r5, r6)) ∧ Aside0 (kq ≤ kj6) ∧ Aside0 (Kd.R (Kd.int .i64) 3 w' w.heap.size (fun _ => True) u8005 x8005_2) ∧ Aside0 (w'.heap[gb1]? = some (.cells #[.int .i64 a0_0, .int .i64 a0_1, .int .i64 a0_2, .int .i64 a0_3, .int .i64 a0_4, (.slice A0_5 l0_5.length c0_5)] 24 (0, 0))) ∧ Aside0 (w'.heap[gb2]? = some (.cells #[.int .i64 0, .int .i64 0, .int .i64 0, .int .i64 0, .int .i64 0, (.slice none 0 0)] 24 (0, 0))) ∧ Aside0 (w'.heap[gb7]? = some (.cells #[.int .i64 (wrap64 (6 + t3)), .int .i64 (wrap64 ((wrap64 (4 * (wrap64 ((wrap64 (t4 + t5)) + 1)))) + t10)), .int .i64 t4, .int .i64 t5, .int .i64 x8004_6, u8005] 24 (0, 0))) ∧ Aside0 (Below w.heap.size w w'))
      case atStart => exact ⟨(0), (([] : List Int)), (.slice none 0 0), (by first | rfl | (simp; done) | (simp [*]; done)), H', ⟨Nat.le_refl _⟩, ⟨by first | exact Kd.R_nil _ _ _ _ _ | exact Kd.N_nil _ _ _ _ _ | exact Kd.V_nil _ _ _ _ _ | exact Kd.Q_nil _ _ _ _ _ | exact Kd.S_nil _ _ _ _ _⟩, ⟨by (with_reducible repeat (first | refine blk_drewN ?_ _ | refine blk_drew ?_ | refine blk_alloc ?_ _)); refine blk_far ?_ NB1_7.out _; (with_reducible repeat (first | refine blk_drewN ?_ _ | refine blk_drew ?_ | refine blk_alloc ?_ _)); exact BK1.out⟩, ⟨by (with_reducible repeat (first | refine blk_drewN ?_ _ | refine blk_drew ?_ | refine blk_alloc ?_ _)); refine blk_far ?_ NB2_7.out _; (with_reducible repeat (first | refine blk_drewN ?_ _ | refine blk_drew ?_ | refine blk_alloc ?_ _)); exact BK2.out⟩, ⟨by (with_reducible repeat (first | refine blk_drewN ?_ _ | refine blk_drew ?_ | refine blk_alloc ?_ _)); refine blk_put (cs := #[.int .i64 (wrap64 (6 + t3)), .int .i64 0, .int .i64 t4, .int .i64 t5, .int .i64 x8004_6, .slice none 0 0]) ?_ 1 _ rfl; (with_reducible repeat (first | refine blk_drewN ?_ _ | refine blk_drew ?_ | refine blk_alloc ?_ _)); exact BK7.out⟩, ⟨by repeat (first | (with_reducible first | exact HB.out | apply below_alloc | apply pw_below_drewN | apply below_drew1 | refine below_set ?_ GE1.out | refine below_set ?_ GE2.out | refine below_set ?_ GE7.out) | exact HB.out)⟩⟩
      case round =>
        clear H'
        try clear c1
        try clear c2
        try clear p2
        try clear c6
        try clear p6
        try clear c19
        try clear c20
        try clear c22
        try clear c22b0
        try clear c22b1
        try clear c24
        try clear c25
        try clear c27
        try clear hcz21_0
        try clear hcz21_1
        try clear hcz21_2
        try clear hcz21_3
        try clear hcz21_4
        try clear hcz21_5
        try clear hcz26_0
        try clear hcz26_1
        try clear hcz26_2
        try clear hcz26_3
        try clear hcz26_4
        try clear hcz26_5
        try clear hcz28_0
        try clear hcz28_1
        try clear hcz28_2
        try clear hcz28_3
        try clear hcz28_4
        try clear hcz28_5
        try clear hfz21_0
        try clear hfz21_1
        try clear hfz21_2
        try clear hfz21_3
        try clear hfz21_4
        try clear hfz21_5
        try clear hfz26_0
        try clear hfz26_1
        try clear hfz26_2
        try clear hfz26_3
        try clear hfz26_4
        try clear hfz26_5
        try clear hfz28_0
        try clear hfz28_1
        try clear hfz28_2
        try clear hfz28_3
        try clear hfz28_4
        try clear hfz28_5
        try clear p2
        try clear p6
        obtain ⟨x4_2, x8005_2, u8005, rfl, HA, HK2, HO_8005, BK1, BK2, BK7, HB⟩ := hrel
        cases gk with
        | zero => exact absurd HA.out (by simp [plaitinglaw3_Make.l0])
        | succ k2 =>
          have H := HA.out
          clear HA
          simp only [plaitinglaw3_Make.l0] at H
          by_cases c32 : x4_2 < (l0_5.length : Int)
          · rw [if_pos c32] at H
            have c32b0 : decide (x4_2 < (l0_5.length : Int)) = true := decide_eq_true c32
            clear c32
            by_cases c33 : x4_2 < 3
            · rw [if_pos c33] at H
              have c33b0 : decide (x4_2 < 3) = true := decide_eq_true c33
              clear c33
              by_cases c34 : 0 ≤ x4_2
              · rw [if_pos c34] at H
                have c34b0 : decide (0 ≤ x4_2) = true := decide_eq_true c34
                clear c34
                replace H := Option.bind_eq_some_iff.mp H
                obtain ⟨t12, A350, H⟩ := H
                replace H : (if x8005_2.length < 17592186044416 then (plaitinglaw3_Make.l0 k2 (wrap64 (x4_2 + 1)) a0_0 a0_1 a0_2 a0_3 a0_4 l0_5 (wrap64 (6 + t3)) (wrap64 ((wrap64 (4 * (wrap64 ((wrap64 (t4 + t5)) + 1)))) + t10)) t4 t5 x8004_6 (x8005_2 ++ [wrap64 (t12 - 1)])) else (none)) = some (r1, r2, r3, r4, r5, r6) := H
                have A35 := Aside0.mk A350
                clear A350
                by_cases c36 : x8005_2.length < 17592186044416
                · rw [if_pos c36] at H
                  have LMc36 := Aside0.mk c36
                  clear c36
                  obtain ⟨y13, hy13⟩ : ∃ y_ : List Int, y_ = (x8005_2 ++ [wrap64 (t12 - 1)]) := ⟨_, rfl⟩
                  replace H : (plaitinglaw3_Make.l0 k2 (wrap64 (x4_2 + 1)) a0_0 a0_1 a0_2 a0_3 a0_4 l0_5 (wrap64 (6 + t3)) (wrap64 ((wrap64 (4 * (wrap64 ((wrap64 (t4 + t5)) + 1)))) + t10)) t4 t5 x8004_6 y13) = some (r1, r2, r3, r4, r5, r6) := by first | (rw [hy13]; with_reducible exact H) | (have H2_ := (Option.bind_some _ _).symm.trans H; rw [hy13]; with_reducible exact H2_) | (have H2_ := (Option.bind_some _ _).symm.trans H; with_reducible exact H2_) | with_reducible exact H | (rw [hy13]; exact H) | exact H
                  have Ny13 := Aside0.mk hy13
                  clear hy13
                  have H' := Aside0.mk H
                  clear H
                  have hnb37 := NB1_2.out
                  have hnc37 := NB2_1.out
                  have hnb38 := NB1_7.out
                  have hnc38 := NB7_1.out
                  have hcz39_0 : wr.cell? ⟨gb1, 0, none⟩ = some (.int .i64 a0_0) := (blk_cell BK1.out 0).trans rfl
                  have hcz39_1 : wr.cell? ⟨gb1, 1, none⟩ = some (.int .i64 a0_1) := (blk_cell BK1.out 1).trans rfl
                  have hcz39_2 : wr.cell? ⟨gb1, 2, none⟩ = some (.int .i64 a0_2) := (blk_cell BK1.out 2).trans rfl
                  have hcz39_3 : wr.cell? ⟨gb1, 3, none⟩ = some (.int .i64 a0_3) := (blk_cell BK1.out 3).trans rfl
                  have hcz39_4 : wr.cell? ⟨gb1, 4, none⟩ = some (.int .i64 a0_4) := (blk_cell BK1.out 4).trans rfl
                  have hcz39_5 : wr.cell? ⟨gb1, 5, none⟩ = some (.slice A0_5 l0_5.length c0_5) := (blk_cell BK1.out 5).trans rfl
                  have hfz39_0 := blk_frozen BK1.out 0
                  have hfz39_1 := blk_frozen BK1.out 1
                  have hfz39_2 := blk_frozen BK1.out 2
                  have hfz39_3 := blk_frozen BK1.out 3
                  have hfz39_4 := blk_frozen BK1.out 4
                  have hfz39_5 := blk_frozen BK1.out 5
                  try go_wp2
                  have n0_ := Aside0.mk (Kd.R_drew HO_8005.out)
                  have n1_ := Aside0.mk (blk_drew BK1.out)
                  have n2_ := Aside0.mk (blk_drew BK2.out)
                  have n3_ := Aside0.mk (blk_drew BK7.out)
                  have n4_ := Aside0.mk (below_drew1 HB.out)
                  clear HO_8005
                  clear BK1
                  clear BK2
                  clear BK7
                  clear HB
                  have HO_8005 := n0_
                  have BK1 := n1_
                  have BK2 := n2_
                  have BK7 := n3_
                  have HB := n4_
                  clear n0_ n1_ n2_ n3_ n4_
                  have p11 : 0 ≤ (x4_2 : Int) := of_decide_eq_true (by first | (with_reducible assumption) | assumption)
                  have q11 : x4_2 < (l0_5.length : Int) := of_decide_eq_true (by first | (with_reducible assumption) | assumption)
                  obtain ⟨ad11, e11, hx11_0⟩ := Kd.at_int HR0_5.out x4_2 p11 q11
                  have hw11_0 := hx11_0
                  cases e11
                  replace hx11_0 := (HB.out.cell (World.block_lt_of_cell? w _ hx11_0)).trans hx11_0
                  replace p11 := eq_true p11
                  replace q11 := eq_true q11
                  refine start_ (n := 16) (S := fun w' => w'.cell? ⟨gb7, 0, none⟩ = some (.int .i64 (wrap64 (6 + t3))) ∧ w'.cell? ⟨gb7, 1, none⟩ = some (.int .i64 (wrap64 ((wrap64 (4 * (wrap64 ((wrap64 (t4 + t5)) + 1)))) + t10))) ∧ w'.cell? ⟨gb7, 2, none⟩ = some (.int .i64 t4) ∧ w'.cell? ⟨gb7, 3, none⟩ = some (.int .i64 t5) ∧ w'.cell? ⟨gb7, 4, none⟩ = some (.int .i64 x8004_6) ∧ w'.cell? ⟨gb7, 5, none⟩ = some (u8005) ∧ w'.cell? ⟨gb1, 0, none⟩ = some (.int .i64 a0_0) ∧ w'.cell? ⟨gb1, 1, none⟩ = some (.int .i64 a0_1) ∧ w'.cell? ⟨gb1, 2, none⟩ = some (.int .i64 a0_2) ∧ w'.cell? ⟨gb1, 3, none⟩ = some (.int .i64 a0_3) ∧ w'.cell? ⟨gb1, 4, none⟩ = some (.int .i64 a0_4) ∧ w'.cell? ⟨gb1, 5, none⟩ = some (.slice (some ad11) l0_5.length c0_5) ∧ w'.cell? (ad11.add (x4_2).toNat) = some (.int .i64 (rd l0_5 x4_2))) (ds := [15]) #[false, false, false, false, false, false, false, false, false, false, false, false, false, false, false, false] (by kernel_rfl) rfl rfl ⟨(blk_cell BK7.out 0).trans rfl, (blk_cell BK7.out 1).trans rfl, (blk_cell BK7.out 2).trans rfl, (blk_cell BK7.out 3).trans rfl, (blk_cell BK7.out 4).trans rfl, (blk_cell BK7.out 5).trans rfl, (blk_cell BK1.out 0).trans rfl, (blk_cell BK1.out 1).trans rfl, (blk_cell BK1.out 2).trans rfl, (blk_cell BK1.out 3).trans rfl, (blk_cell BK1.out 4).trans rfl, (blk_cell BK1.out 5).trans rfl, ((HB.out.cell (World.block_lt_of_cell? w _ hw11_0)).trans hw11_0)⟩ (fun hHeld => ?_); refine with_tabW plaitinglaw3_Make.tab8 plaitinglaw3_Make.bits8 (fun HT_ HW_ => ?_)
                  generalize wr.drew = w40 at HO_8005 BK1 BK2 BK7 HB hx11_0 hHeld ⊢
                  refine pure_ (i := 0) (N := some 51) (v := ?_) (a' := ?_) #[true, false, false, false, false, false, false, false, false, false, false, false, false, false, false, false] rfl rfl (any_of HT_.out (by kernel_rfl)) (fun _ _ _ h => h) (Or.inl ⟨by rfl, ?_⟩) ?_ ?_
                  rotate_left
                  · intro w'
                    go_simp
                    with_reducible rfl
                  rotate_left
                  · simp only [Act.put, List.setIfInBounds_toArray, List.set_cons_zero, List.set_cons_succ, i64_w, i32_w]
                    rfl
                  refine pure_ (i := 2) (N := some 53) (v := ?_) (a' := ?_) #[true, false, true, false, false, false, false, false, false, false, false, false, false, false, false, false] rfl rfl (any_of HT_.out (by kernel_rfl)) (fun _ _ _ h => h) (Or.inl ⟨by rfl, ?_⟩) ?_ ?_
                  rotate_left
                  · intro w'
                    go_simp
                    with_reducible rfl
                  rotate_left
                  · simp only [Act.put, List.setIfInBounds_toArray, List.set_cons_zero, List.set_cons_succ, i64_w, i32_w]
                    rfl
                  refine pure_ (i := 4) (N := some 55) (v := ?_) (a' := ?_) #[true, false, true, false, true, false, false, false, false, false, false, false, false, false, false, false] rfl rfl (any_of HT_.out (by kernel_rfl)) (fun _ _ _ h => h) (Or.inl ⟨by rfl, ?_⟩) ?_ ?_
                  rotate_left
                  · intro w'
                    go_simp
                    with_reducible rfl
                  rotate_left
                  · simp only [Act.put, List.setIfInBounds_toArray, List.set_cons_zero, List.set_cons_succ, i64_w, i32_w]
                    rfl
                  refine pure_ (i := 7) (N := some 58) (v := ?_) (a' := ?_) #[true, false, true, false, true, false, false, true, false, false, false, false, false, false, false, false] rfl rfl (any_of HT_.out (by kernel_rfl)) (fun _ _ _ h => h) (Or.inl ⟨by rfl, ?_⟩) ?_ ?_
                  rotate_left
                  · intro w'
                    go_simp
                    with_reducible rfl
                  rotate_left
                  · simp only [Act.put, List.setIfInBounds_toArray, List.set_cons_zero, List.set_cons_succ, i64_w, i32_w]
                    rfl
                  refine take_ (i := 1) (N := some 52) (v := ?_) (a' := ?_) #[true, true, true, false, true, false, false, true, false, false, false, false, false, false, false, false] rfl rfl (take_ofW HT_.out HW_.out (by kernel_rfl)) (fun _ _ _ h => h) (Or.inl ⟨by rfl, ?_⟩) hHeld ?_ ?_
                  rotate_left
                  · rintro w' ⟨s0, s1, s2, s3, s4, s5, s6, s7, s8, s9, s10, s11, s12⟩
                    go_simp
                    with_reducible rfl
                  rotate_left
                  · simp only [Act.put, List.setIfInBounds_toArray, List.set_cons_zero, List.set_cons_succ, i64_w, i32_w]
                    rfl
                  refine take_ (i := 3) (N := some 54) (v := ?_) (a' := ?_) #[true, true, true, true, true, false, false, true, false, false, false, false, false, false, false, false] rfl rfl (take_ofW HT_.out HW_.out (by kernel_rfl)) (fun _ _ _ h => h) (Or.inl ⟨by rfl, ?_⟩) hHeld ?_ ?_
                  rotate_left
                  · rintro w' ⟨s0, s1, s2, s3, s4, s5, s6, s7, s8, s9, s10, s11, s12⟩
                    go_simp
                    with_reducible rfl
                  rotate_left
                  · simp only [Act.put, List.setIfInBounds_toArray, List.set_cons_zero, List.set_cons_succ, i64_w, i32_w]
                    rfl
                  refine pure_ (i := 5) (N := some 56) (v := ?_) (a' := ?_) #[true, true, true, true, true, true, false, true, false, false, false, false, false, false, false, false] rfl rfl (any_of HT_.out (by kernel_rfl)) (fun _ _ _ h => h) (Or.inl ⟨by rfl, ?_⟩) ?_ ?_
                  rotate_left
                  · intro w'
                    go_simp
                    with_reducible rfl
                  rotate_left
                  · simp only [Act.put, List.setIfInBounds_toArray, List.set_cons_zero, List.set_cons_succ, i64_w, i32_w]
                    rfl
                  refine take_ (i := 6) (N := some 57) (v := ?_) (a' := ?_) #[true, true, true, true, true, true, true, true, false, false, false, false, false, false, false, false] rfl rfl (take_ofW HT_.out HW_.out (by kernel_rfl)) (fun _ _ _ h => h) (Or.inl ⟨by rfl, ?_⟩) hHeld ?_ ?_
                  rotate_left
                  · rintro w' ⟨s0, s1, s2, s3, s4, s5, s6, s7, s8, s9, s10, s11, s12⟩
                    go_simp
                    with_reducible rfl
                  rotate_left
                  · simp only [Act.put, List.setIfInBounds_toArray, List.set_cons_zero, List.set_cons_succ, i64_w, i32_w]
                    rfl
                  refine take_ (i := 8) (N := some 59) (v := ?_) (a' := ?_) #[true, true, true, true, true, true, true, true, true, false, false, false, false, false, false, false] rfl rfl (take_ofW HT_.out HW_.out (by kernel_rfl)) (fun _ _ _ h => h) (Or.inl ⟨by rfl, ?_⟩) hHeld ?_ ?_
                  rotate_left
                  · rintro w' ⟨s0, s1, s2, s3, s4, s5, s6, s7, s8, s9, s10, s11, s12⟩
                    go_simp
                    with_reducible rfl
                  rotate_left
                  · simp only [Act.put, List.setIfInBounds_toArray, List.set_cons_zero, List.set_cons_succ, i64_w, i32_w]
                    rfl
                  refine pure_ (i := 9) (N := some 60) (v := ?_) (a' := ?_) #[true, true, true, true, true, true, true, true, true, true, false, false, false, false, false, false] rfl rfl (any_of HT_.out (by kernel_rfl)) (fun _ _ _ h => h) (Or.inl ⟨by rfl, ?_⟩) ?_ ?_
                  rotate_left
                  · intro w'
                    go_simp
                    with_reducible rfl
                  rotate_left
                  · simp only [Act.put, List.setIfInBounds_toArray, List.set_cons_zero, List.set_cons_succ, i64_w, i32_w]
                    rfl
                  refine one_ (i := 10) (N := some 61) #[true, true, true, true, true, true, true, true, true, true, true, false, false, false, false, false] rfl rfl (one_of HT_.out (by kernel_rfl)) (by decide) (fun K hK => ?_)
                  refine goes_ Try.func65 (by kernel_rfl) rfl #[.int .i64 (rd l0_5 x4_2), .int .i64 (wrap64 ((wrap64 (6 + t3)) + 1))] (by rfl) rfl rfl (by (try simp only [List.map_toArray, List.map_cons, List.map_nil]); first | done | rfl | (simp only [List.length_drop, List.length_take]; rfl)) ?_
                  with_reducible refine (plaitinglaw3_within.calls (rd l0_5 x4_2) (wrap64 ((wrap64 (6 + t3)) + 1)) t12 _ A35.out).mono ?_
                  rintro e w' ⟨rfl, ⟨nd, rfl⟩⟩
                  refine ⟨_, rfl, ?_⟩
                  refine hK.out _ _ ⟨(blk_cell BK7.out 0).trans rfl, (blk_cell BK7.out 1).trans rfl, (blk_cell BK7.out 2).trans rfl, (blk_cell BK7.out 3).trans rfl, (blk_cell BK7.out 4).trans rfl, (blk_cell BK7.out 5).trans rfl, (blk_cell BK1.out 0).trans rfl, (blk_cell BK1.out 1).trans rfl, (blk_cell BK1.out 2).trans rfl, (blk_cell BK1.out 3).trans rfl, (blk_cell BK1.out 4).trans rfl, (blk_cell BK1.out 5).trans rfl, ((HB.out.cell (World.block_lt_of_cell? w _ hw11_0)).trans hw11_0)⟩ (fun hHeld => ?_)
                  clear hK K
                  refine norm_ (a' := ?_) ?_ ?_
                  rotate_left
                  · show Act.put _ (some 61) _ = _
                    simp only [Act.put, List.setIfInBounds_toArray, List.set_cons_zero, List.set_cons_succ, i64_w, i32_w]
                    rfl
                  refine pure_ (i := 11) (N := some 62) (v := ?_) (a' := ?_) #[true, true, true, true, true, true, true, true, true, true, true, true, false, false, false, false] rfl rfl (any_of HT_.out (by kernel_rfl)) (fun _ _ _ h => h) (Or.inl ⟨by rfl, ?_⟩) ?_ ?_
                  rotate_left
                  · intro w'
                    go_simp
                    with_reducible rfl
                  rotate_left
                  · simp only [Act.put, List.setIfInBounds_toArray, List.set_cons_zero, List.set_cons_succ, i64_w, i32_w]
                    rfl
                  refine one_ (i := 12) (N := some 63) #[true, true, true, true, true, true, true, true, true, true, true, true, true, false, false, false] rfl rfl (one_of HT_.out (by kernel_rfl)) (by decide) (fun K hK => ?_)
                  refine value_ (w1 := ?_) (v := ?_) (by rfl) rfl ?_ ?_
                  rotate_left 2
                  · go_simp
                    constructor
                    · rfl
                    · rfl
                  refine hK.out _ _ ⟨(blk_cell (blk_alloc BK7.out _) 0).trans rfl, (blk_cell (blk_alloc BK7.out _) 1).trans rfl, (blk_cell (blk_alloc BK7.out _) 2).trans rfl, (blk_cell (blk_alloc BK7.out _) 3).trans rfl, (blk_cell (blk_alloc BK7.out _) 4).trans rfl, (blk_cell (blk_alloc BK7.out _) 5).trans rfl, (blk_cell (blk_alloc BK1.out _) 0).trans rfl, (blk_cell (blk_alloc BK1.out _) 1).trans rfl, (blk_cell (blk_alloc BK1.out _) 2).trans rfl, (blk_cell (blk_alloc BK1.out _) 3).trans rfl, (blk_cell (blk_alloc BK1.out _) 4).trans rfl, (blk_cell (blk_alloc BK1.out _) 5).trans rfl, (World.cell?_alloc_lt _ _ _ (World.block_lt_of_cell? _ _ (((HB.out.cell (World.block_lt_of_cell? w _ hw11_0)).trans hw11_0)))).trans (((HB.out.cell (World.block_lt_of_cell? w _ hw11_0)).trans hw11_0))⟩ (fun hHeld => ?_)
                  clear hK K
                  refine norm_ (a' := ?_) ?_ ?_
                  rotate_left
                  · show Act.put _ (some 63) _ = _
                    simp only [Act.put, List.setIfInBounds_toArray, List.set_cons_zero, List.set_cons_succ, i64_w, i32_w]
                    rfl
                  refine one_ (i := 13) (N := some 64) #[true, true, true, true, true, true, true, true, true, true, true, true, true, true, false, false] rfl rfl (one_of HT_.out (by kernel_rfl)) (by decide) (fun K hK => ?_)
                  refine Kd.R_append_step (Kd.int .i64) (w0 := w) w.heap.size (by rfl) (.tmp 52) (.tmp 63) 22 3 (.int .i64 0) 8 rfl Try.underlying22 info3 rfl (by decide) (by omega) u8005 x8005_2 (wrap64 (t12 - 1)) [.int .i64 (wrap64 (t12 - 1))] (fun _ => True) (fun _ => False) rfl rfl ?aP (fun _ hk => hk.elim) ?aF ?aO ?aB ?aS ?aL ?_
                  (case aP => exact rfl)
                  (case aB => exact (by repeat (first | (with_reducible first | exact HB.out | apply below_alloc | apply pw_below_drewN | apply below_drew1 | refine below_set ?_ GE1.out | refine below_set ?_ GE2.out | refine below_set ?_ GE7.out) | exact HB.out)))
                  (case aF => exact (fun _ _ => trivial))
                  (case aO => exact (by (with_reducible repeat (first | apply Kd.R_alloc | apply Kd.R_drewN | apply Kd.R_drew)); exact HO_8005.out))
                  (case aS => exact (below_size (by repeat (first | (with_reducible first | exact HB.out | apply below_alloc | apply pw_below_drewN | apply below_drew1 | refine below_set ?_ GE1.out | refine below_set ?_ GE2.out | refine below_set ?_ GE7.out) | exact HB.out))))
                  (case aL => have := LMc36.out; omega)
                  intro v14 w41 ho hb hg hat
                  rw [← Ny13.out] at ho
                  have n0_ := Aside0.mk (blk_grown (g := gb1) (o := .cells #[.int .i64 a0_0, .int .i64 a0_1, .int .i64 a0_2, .int .i64 a0_3, .int .i64 a0_4, .slice (some ad11) l0_5.length c0_5] 24 (0, 0)) (by (with_reducible repeat (first | refine blk_drewN ?_ _ | refine blk_drew ?_ | refine blk_alloc ?_ _)); exact BK1.out) hg (Kd.R_ne HO_8005.out BK1.out (by decide)))
                  have n1_ := Aside0.mk (blk_grown (g := gb2) (o := .cells #[.int .i64 0, .int .i64 0, .int .i64 0, .int .i64 0, .int .i64 0, .slice none 0 0] 24 (0, 0)) (by (with_reducible repeat (first | refine blk_drewN ?_ _ | refine blk_drew ?_ | refine blk_alloc ?_ _)); exact BK2.out) hg (Kd.R_ne HO_8005.out BK2.out (by decide)))
                  have n2_ := Aside0.mk (blk_grown (g := gb7) (o := .cells #[.int .i64 (wrap64 (6 + t3)), .int .i64 (wrap64 ((wrap64 (4 * (wrap64 ((wrap64 (t4 + t5)) + 1)))) + t10)), .int .i64 t4, .int .i64 t5, .int .i64 x8004_6, u8005] 24 (0, 0)) (by (with_reducible repeat (first | refine blk_drewN ?_ _ | refine blk_drew ?_ | refine blk_alloc ?_ _)); exact BK7.out) hg (Kd.R_ne HO_8005.out BK7.out (by decide)))
                  have n3_ := Aside0.mk (hb)
                  have n4_ := Aside0.mk (ho)
                  clear BK1
                  clear BK2
                  clear BK7
                  clear HB
                  clear HO_8005
                  have BK1 := n0_
                  have BK2 := n1_
                  have BK7 := n2_
                  have HB := n3_
                  have HO15 := n4_
                  clear n0_ n1_ n2_ n3_ n4_
                  clear ho hb hg hat
                  obtain ⟨Ao42, co42, eo42⟩ := Kd.R_slice HO15.out
                  (first | subst eo42 | (injection eo42 with f1_ f2_ f3_; have f4_ := f1_.symm; have f5_ := f3_.symm; clear f1_ f2_ f3_; subst f4_; subst f5_))
                  refine hK.out _ _ ⟨(blk_cell BK7.out 0).trans rfl, (blk_cell BK7.out 1).trans rfl, (blk_cell BK7.out 2).trans rfl, (blk_cell BK7.out 3).trans rfl, (blk_cell BK7.out 4).trans rfl, (blk_cell BK7.out 5).trans rfl, (blk_cell BK1.out 0).trans rfl, (blk_cell BK1.out 1).trans rfl, (blk_cell BK1.out 2).trans rfl, (blk_cell BK1.out 3).trans rfl, (blk_cell BK1.out 4).trans rfl, (blk_cell BK1.out 5).trans rfl, ((HB.out.cell (World.block_lt_of_cell? w _ hw11_0)).trans hw11_0)⟩ (fun hHeld => ?_)
                  clear hK K
                  refine norm_ (a' := ?_) ?_ ?_
                  rotate_left
                  · show Act.put _ (some 64) _ = _
                    simp only [Act.put, List.setIfInBounds_toArray, List.set_cons_zero, List.set_cons_succ, i64_w, i32_w]
                    rfl
                  refine pure_ (i := 14) (N := some 65) (v := ?_) (a' := ?_) #[true, true, true, true, true, true, true, true, true, true, true, true, true, true, true, false] rfl rfl (any_of HT_.out (by kernel_rfl)) (fun _ _ _ h => h) (Or.inl ⟨by rfl, ?_⟩) ?_ ?_
                  rotate_left
                  · intro w'
                    go_simp
                    with_reducible rfl
                  rotate_left
                  · simp only [Act.put, List.setIfInBounds_toArray, List.set_cons_zero, List.set_cons_succ, i64_w, i32_w]
                    rfl
                  refine last_ (i := 15) (N := none) #[true, true, true, true, true, true, true, true, true, true, true, true, true, true, true, true] rfl rfl (one_of HT_.out (by kernel_rfl)) (by decide) (fun K hK => ?_)
                  have hs43 : w41.cell? ⟨gb7, 5, none⟩ = some (u8005) := (blk_cell BK7.out 5).trans rfl
                  have hfs43 := blk_frozen BK7.out 5
                  have hns43_0 := NB1_7.out
                  have hns43_1 := NB2_7.out
                  have hms43_0 := NB7_1.out
                  have hms43_1 := NB7_2.out
                  refine skip_ (w1 := ?_) (by rfl) rfl ?_ ?_
                  rotate_left
                  · go_simp
                    rfl
                  refine hK.out _ _ ?_
                  clear hK K
                  refine done_ (done_of HT_.out (by kernel_rfl)) ?_
                  try go_wp2
                  go_roundg k2
                  case measure => have := HJ6.out; have := HK2.out; omega
                  case rel => exact ⟨(wrap64 (x4_2 + 1)), (y13), (.slice Ao42 y13.length co42), (by first | rfl | (simp; done) | (simp [*]; done)), H', ⟨by have := HJ6.out; have := HK2.out; omega⟩, ⟨by (with_reducible repeat (first | apply Kd.R_alloc | apply Kd.R_drewN | apply Kd.R_drew)); exact Kd.R_mono (Kd.R_far (p := ⟨gb7, 5, none⟩) (Kd.R_types HO15.out BK7.out (by decide)) (fun _ hk => hk.2) (.slice Ao42 y13.length co42)) (fun _ hk => trivial)⟩, ⟨by (with_reducible repeat (first | refine blk_drewN ?_ _ | refine blk_drew ?_ | refine blk_alloc ?_ _)); refine blk_far ?_ NB1_7.out _; (with_reducible repeat (first | refine blk_drewN ?_ _ | refine blk_drew ?_ | refine blk_alloc ?_ _)); exact BK1.out⟩, ⟨by (with_reducible repeat (first | refine blk_drewN ?_ _ | refine blk_drew ?_ | refine blk_alloc ?_ _)); refine blk_far ?_ NB2_7.out _; (with_reducible repeat (first | refine blk_drewN ?_ _ | refine blk_drew ?_ | refine blk_alloc ?_ _)); exact BK2.out⟩, ⟨by (with_reducible repeat (first | refine blk_drewN ?_ _ | refine blk_drew ?_ | refine blk_alloc ?_ _)); refine blk_put (cs := #[.int .i64 (wrap64 (6 + t3)), .int .i64 (wrap64 ((wrap64 (4 * (wrap64 ((wrap64 (t4 + t5)) + 1)))) + t10)), .int .i64 t4, .int .i64 t5, .int .i64 x8004_6, u8005]) ?_ 5 _ rfl; (with_reducible repeat (first | refine blk_drewN ?_ _ | refine blk_drew ?_ | refine blk_alloc ?_ _)); exact BK7.out⟩, ⟨by repeat (first | (with_reducible first | exact HB.out | apply below_alloc | apply pw_below_drewN | apply below_drew1 | refine below_set ?_ GE1.out | refine below_set ?_ GE2.out | refine below_set ?_ GE7.out) | exact HB.out)⟩⟩
                · rw [if_neg c36] at H
                  exact absurd H (by simp)
              · rw [if_neg c34] at H
                exact absurd H (by simp)
            · rw [if_neg c33] at H
              have c33b0 : decide (x4_2 < 3) = false := decide_eq_false c33
              clear c33
              simp only [Option.some.injEq, Prod.mk.injEq] at H
              obtain ⟨rfl, rfl, rfl, rfl, rfl, rfl⟩ := H
              have hnb44 := NB1_2.out
              have hnc44 := NB2_1.out
              have hnb45 := NB1_7.out
              have hnc45 := NB7_1.out
              have hcz46_0 : wr.cell? ⟨gb1, 0, none⟩ = some (.int .i64 a0_0) := (blk_cell BK1.out 0).trans rfl
              have hcz46_1 : wr.cell? ⟨gb1, 1, none⟩ = some (.int .i64 a0_1) := (blk_cell BK1.out 1).trans rfl
              have hcz46_2 : wr.cell? ⟨gb1, 2, none⟩ = some (.int .i64 a0_2) := (blk_cell BK1.out 2).trans rfl
              have hcz46_3 : wr.cell? ⟨gb1, 3, none⟩ = some (.int .i64 a0_3) := (blk_cell BK1.out 3).trans rfl
              have hcz46_4 : wr.cell? ⟨gb1, 4, none⟩ = some (.int .i64 a0_4) := (blk_cell BK1.out 4).trans rfl
              have hcz46_5 : wr.cell? ⟨gb1, 5, none⟩ = some (.slice A0_5 l0_5.length c0_5) := (blk_cell BK1.out 5).trans rfl
              have hfz46_0 := blk_frozen BK1.out 0
              have hfz46_1 := blk_frozen BK1.out 1
              have hfz46_2 := blk_frozen BK1.out 2
              have hfz46_3 := blk_frozen BK1.out 3
              have hfz46_4 := blk_frozen BK1.out 4
              have hfz46_5 := blk_frozen BK1.out 5
              have hnb47 := NB7_2.out
              have hnc47 := NB2_7.out
              have hcz48_0 : wr.cell? ⟨gb7, 0, none⟩ = some (.int .i64 (wrap64 (6 + t3))) := (blk_cell BK7.out 0).trans rfl
              have hcz48_1 : wr.cell? ⟨gb7, 1, none⟩ = some (.int .i64 (wrap64 ((wrap64 (4 * (wrap64 ((wrap64 (t4 + t5)) + 1)))) + t10))) := (blk_cell BK7.out 1).trans rfl
              have hcz48_2 : wr.cell? ⟨gb7, 2, none⟩ = some (.int .i64 t4) := (blk_cell BK7.out 2).trans rfl
              have hcz48_3 : wr.cell? ⟨gb7, 3, none⟩ = some (.int .i64 t5) := (blk_cell BK7.out 3).trans rfl
              have hcz48_4 : wr.cell? ⟨gb7, 4, none⟩ = some (.int .i64 x8004_6) := (blk_cell BK7.out 4).trans rfl
              have hcz48_5 : wr.cell? ⟨gb7, 5, none⟩ = some (u8005) := (blk_cell BK7.out 5).trans rfl
              have hfz48_0 := blk_frozen BK7.out 0
              have hfz48_1 := blk_frozen BK7.out 1
              have hfz48_2 := blk_frozen BK7.out 2
              have hfz48_3 := blk_frozen BK7.out 3
              have hfz48_4 := blk_frozen BK7.out 4
              have hfz48_5 := blk_frozen BK7.out 5
              have hcz49_0 : wr.cell? ⟨gb2, 0, none⟩ = some (.int .i64 0) := (blk_cell BK2.out 0).trans rfl
              have hcz49_1 : wr.cell? ⟨gb2, 1, none⟩ = some (.int .i64 0) := (blk_cell BK2.out 1).trans rfl
              have hcz49_2 : wr.cell? ⟨gb2, 2, none⟩ = some (.int .i64 0) := (blk_cell BK2.out 2).trans rfl
              have hcz49_3 : wr.cell? ⟨gb2, 3, none⟩ = some (.int .i64 0) := (blk_cell BK2.out 3).trans rfl
              have hcz49_4 : wr.cell? ⟨gb2, 4, none⟩ = some (.int .i64 0) := (blk_cell BK2.out 4).trans rfl
              have hcz49_5 : wr.cell? ⟨gb2, 5, none⟩ = some (.slice none 0 0) := (blk_cell BK2.out 5).trans rfl
              have hfz49_0 := blk_frozen BK2.out 0
              have hfz49_1 := blk_frozen BK2.out 1
              have hfz49_2 := blk_frozen BK2.out 2
              have hfz49_3 := blk_frozen BK2.out 3
              have hfz49_4 := blk_frozen BK2.out 4
              have hfz49_5 := blk_frozen BK2.out 5
              obtain ⟨Ao50, co50, eo50⟩ := Kd.R_slice HO_8005.out
              subst eo50
              go_wp2
              refine bodyPost_ret (results_cell_row rfl _ _ gb2 24 #[.int .i64 (wrap64 (6 + t3)), .int .i64 (wrap64 ((wrap64 (4 * (wrap64 ((wrap64 (t4 + t5)) + 1)))) + t10)), .int .i64 t4, .int .i64 t5, .int .i64 x8004_6, .slice Ao50 x8005_2.length co50] (0, 0) _ rfl (by (with_reducible repeat (first | refine blk_drewN ?_ _ | refine blk_drew ?_ | refine blk_alloc ?_ _)); refine blk_put (cs := #[.int .i64 (wrap64 (6 + t3)), .int .i64 (wrap64 ((wrap64 (4 * (wrap64 ((wrap64 (t4 + t5)) + 1)))) + t10)), .int .i64 t4, .int .i64 t5, .int .i64 x8004_6, .slice none 0 0]) ?_ 5 _ rfl; (with_reducible repeat (first | refine blk_drewN ?_ _ | refine blk_drew ?_ | refine blk_alloc ?_ _)); refine blk_put (cs := #[.int .i64 (wrap64 (6 + t3)), .int .i64 (wrap64 ((wrap64 (4 * (wrap64 ((wrap64 (t4 + t5)) + 1)))) + t10)), .int .i64 t4, .int .i64 t5, .int .i64 0, .slice none 0 0]) ?_ 4 _ rfl; (with_reducible repeat (first | refine blk_drewN ?_ _ | refine blk_drew ?_ | refine blk_alloc ?_ _)); refine blk_put (cs := #[.int .i64 (wrap64 (6 + t3)), .int .i64 (wrap64 ((wrap64 (4 * (wrap64 ((wrap64 (t4 + t5)) + 1)))) + t10)), .int .i64 t4, .int .i64 0, .int .i64 0, .slice none 0 0]) ?_ 3 _ rfl; (with_reducible repeat (first | refine blk_drewN ?_ _ | refine blk_drew ?_ | refine blk_alloc ?_ _)); refine blk_put (cs := #[.int .i64 (wrap64 (6 + t3)), .int .i64 (wrap64 ((wrap64 (4 * (wrap64 ((wrap64 (t4 + t5)) + 1)))) + t10)), .int .i64 0, .int .i64 0, .int .i64 0, .slice none 0 0]) ?_ 2 _ rfl; (with_reducible repeat (first | refine blk_drewN ?_ _ | refine blk_drew ?_ | refine blk_alloc ?_ _)); refine blk_put (cs := #[.int .i64 (wrap64 (6 + t3)), .int .i64 0, .int .i64 0, .int .i64 0, .int .i64 0, .slice none 0 0]) ?_ 1 _ rfl; (with_reducible repeat (first | refine blk_drewN ?_ _ | refine blk_drew ?_ | refine blk_alloc ?_ _)); refine blk_put (cs := #[.int .i64 0, .int .i64 0, .int .i64 0, .int .i64 0, .int .i64 0, .slice none 0 0]) ?_ 0 _ rfl; (with_reducible repeat (first | refine blk_drewN ?_ _ | refine blk_drew ?_ | refine blk_alloc ?_ _)); exact BK2.out) Try.underlying24 rfl (by kernel_rfl)) rfl ?_
              exact ⟨_, by first | rfl | (simp [errW_none, errW_some] <;> rfl) | (simp [*, errW_none, errW_some] <;> rfl), by (with_reducible repeat (first | apply Kd.R_alloc | apply Kd.R_drewN | apply Kd.R_drew)); exact Kd.R_mono (Kd.R_far (p := ⟨gb2, 5, none⟩) (Kd.R_far (p := ⟨gb2, 4, none⟩) (Kd.R_far (p := ⟨gb2, 3, none⟩) (Kd.R_far (p := ⟨gb2, 2, none⟩) (Kd.R_far (p := ⟨gb2, 1, none⟩) (Kd.R_far (p := ⟨gb2, 0, none⟩) (Kd.R_types HO_8005.out BK2.out (by decide)) (fun _ hk => hk.2) (.int .i64 (wrap64 (6 + t3)))) (fun _ hk => hk.2) (.int .i64 (wrap64 ((wrap64 (4 * (wrap64 ((wrap64 (t4 + t5)) + 1)))) + t10)))) (fun _ hk => hk.2) (.int .i64 t4)) (fun _ hk => hk.2) (.int .i64 t5)) (fun _ hk => hk.2) (.int .i64 x8004_6)) (fun _ hk => hk.2) (.slice Ao50 x8005_2.length co50)) (fun _ hk => trivial), by repeat (first | (with_reducible first | exact HB.out | apply below_alloc | apply pw_below_drewN | apply below_drew1 | refine below_set ?_ GE1.out | refine below_set ?_ GE2.out | refine below_set ?_ GE7.out) | exact HB.out)⟩
          · rw [if_neg c32] at H
            have c32b0 : decide (x4_2 < (l0_5.length : Int)) = false := decide_eq_false c32
            clear c32
            simp only [Option.some.injEq, Prod.mk.injEq] at H
            obtain ⟨rfl, rfl, rfl, rfl, rfl, rfl⟩ := H
            have hnb51 := NB1_2.out
            have hnc51 := NB2_1.out
            have hnb52 := NB1_7.out
            have hnc52 := NB7_1.out
            have hcz53_0 : wr.cell? ⟨gb1, 0, none⟩ = some (.int .i64 a0_0) := (blk_cell BK1.out 0).trans rfl
            have hcz53_1 : wr.cell? ⟨gb1, 1, none⟩ = some (.int .i64 a0_1) := (blk_cell BK1.out 1).trans rfl
            have hcz53_2 : wr.cell? ⟨gb1, 2, none⟩ = some (.int .i64 a0_2) := (blk_cell BK1.out 2).trans rfl
            have hcz53_3 : wr.cell? ⟨gb1, 3, none⟩ = some (.int .i64 a0_3) := (blk_cell BK1.out 3).trans rfl
            have hcz53_4 : wr.cell? ⟨gb1, 4, none⟩ = some (.int .i64 a0_4) := (blk_cell BK1.out 4).trans rfl
            have hcz53_5 : wr.cell? ⟨gb1, 5, none⟩ = some (.slice A0_5 l0_5.length c0_5) := (blk_cell BK1.out 5).trans rfl
            have hfz53_0 := blk_frozen BK1.out 0
            have hfz53_1 := blk_frozen BK1.out 1
            have hfz53_2 := blk_frozen BK1.out 2
            have hfz53_3 := blk_frozen BK1.out 3
            have hfz53_4 := blk_frozen BK1.out 4
            have hfz53_5 := blk_frozen BK1.out 5
            have hnb54 := NB7_2.out
            have hnc54 := NB2_7.out
            have hcz55_0 : wr.cell? ⟨gb7, 0, none⟩ = some (.int .i64 (wrap64 (6 + t3))) := (blk_cell BK7.out 0).trans rfl
            have hcz55_1 : wr.cell? ⟨gb7, 1, none⟩ = some (.int .i64 (wrap64 ((wrap64 (4 * (wrap64 ((wrap64 (t4 + t5)) + 1)))) + t10))) := (blk_cell BK7.out 1).trans rfl
            have hcz55_2 : wr.cell? ⟨gb7, 2, none⟩ = some (.int .i64 t4) := (blk_cell BK7.out 2).trans rfl
            have hcz55_3 : wr.cell? ⟨gb7, 3, none⟩ = some (.int .i64 t5) := (blk_cell BK7.out 3).trans rfl
            have hcz55_4 : wr.cell? ⟨gb7, 4, none⟩ = some (.int .i64 x8004_6) := (blk_cell BK7.out 4).trans rfl
            have hcz55_5 : wr.cell? ⟨gb7, 5, none⟩ = some (u8005) := (blk_cell BK7.out 5).trans rfl
            have hfz55_0 := blk_frozen BK7.out 0
            have hfz55_1 := blk_frozen BK7.out 1
            have hfz55_2 := blk_frozen BK7.out 2
            have hfz55_3 := blk_frozen BK7.out 3
            have hfz55_4 := blk_frozen BK7.out 4
            have hfz55_5 := blk_frozen BK7.out 5
            have hcz56_0 : wr.cell? ⟨gb2, 0, none⟩ = some (.int .i64 0) := (blk_cell BK2.out 0).trans rfl
            have hcz56_1 : wr.cell? ⟨gb2, 1, none⟩ = some (.int .i64 0) := (blk_cell BK2.out 1).trans rfl
            have hcz56_2 : wr.cell? ⟨gb2, 2, none⟩ = some (.int .i64 0) := (blk_cell BK2.out 2).trans rfl
            have hcz56_3 : wr.cell? ⟨gb2, 3, none⟩ = some (.int .i64 0) := (blk_cell BK2.out 3).trans rfl
            have hcz56_4 : wr.cell? ⟨gb2, 4, none⟩ = some (.int .i64 0) := (blk_cell BK2.out 4).trans rfl
            have hcz56_5 : wr.cell? ⟨gb2, 5, none⟩ = some (.slice none 0 0) := (blk_cell BK2.out 5).trans rfl
            have hfz56_0 := blk_frozen BK2.out 0
            have hfz56_1 := blk_frozen BK2.out 1
            have hfz56_2 := blk_frozen BK2.out 2
            have hfz56_3 := blk_frozen BK2.out 3
            have hfz56_4 := blk_frozen BK2.out 4
            have hfz56_5 := blk_frozen BK2.out 5
            obtain ⟨Ao57, co57, eo57⟩ := Kd.R_slice HO_8005.out
            subst eo57
            go_wp2
            refine bodyPost_ret (results_cell_row rfl _ _ gb2 24 #[.int .i64 (wrap64 (6 + t3)), .int .i64 (wrap64 ((wrap64 (4 * (wrap64 ((wrap64 (t4 + t5)) + 1)))) + t10)), .int .i64 t4, .int .i64 t5, .int .i64 x8004_6, .slice Ao57 x8005_2.length co57] (0, 0) _ rfl (by (with_reducible repeat (first | refine blk_drewN ?_ _ | refine blk_drew ?_ | refine blk_alloc ?_ _)); refine blk_put (cs := #[.int .i64 (wrap64 (6 + t3)), .int .i64 (wrap64 ((wrap64 (4 * (wrap64 ((wrap64 (t4 + t5)) + 1)))) + t10)), .int .i64 t4, .int .i64 t5, .int .i64 x8004_6, .slice none 0 0]) ?_ 5 _ rfl; (with_reducible repeat (first | refine blk_drewN ?_ _ | refine blk_drew ?_ | refine blk_alloc ?_ _)); refine blk_put (cs := #[.int .i64 (wrap64 (6 + t3)), .int .i64 (wrap64 ((wrap64 (4 * (wrap64 ((wrap64 (t4 + t5)) + 1)))) + t10)), .int .i64 t4, .int .i64 t5, .int .i64 0, .slice none 0 0]) ?_ 4 _ rfl; (with_reducible repeat (first | refine blk_drewN ?_ _ | refine blk_drew ?_ | refine blk_alloc ?_ _)); refine blk_put (cs := #[.int .i64 (wrap64 (6 + t3)), .int .i64 (wrap64 ((wrap64 (4 * (wrap64 ((wrap64 (t4 + t5)) + 1)))) + t10)), .int .i64 t4, .int .i64 0, .int .i64 0, .slice none 0 0]) ?_ 3 _ rfl; (with_reducible repeat (first | refine blk_drewN ?_ _ | refine blk_drew ?_ | refine blk_alloc ?_ _)); refine blk_put (cs := #[.int .i64 (wrap64 (6 + t3)), .int .i64 (wrap64 ((wrap64 (4 * (wrap64 ((wrap64 (t4 + t5)) + 1)))) + t10)), .int .i64 0, .int .i64 0, .int .i64 0, .slice none 0 0]) ?_ 2 _ rfl; (with_reducible repeat (first | refine blk_drewN ?_ _ | refine blk_drew ?_ | refine blk_alloc ?_ _)); refine blk_put (cs := #[.int .i64 (wrap64 (6 + t3)), .int .i64 0, .int .i64 0, .int .i64 0, .int .i64 0, .slice none 0 0]) ?_ 1 _ rfl; (with_reducible repeat (first | refine blk_drewN ?_ _ | refine blk_drew ?_ | refine blk_alloc ?_ _)); refine blk_put (cs := #[.int .i64 0, .int .i64 0, .int .i64 0, .int .i64 0, .int .i64 0, .slice none 0 0]) ?_ 0 _ rfl; (with_reducible repeat (first | refine blk_drewN ?_ _ | refine blk_drew ?_ | refine blk_alloc ?_ _)); exact BK2.out) Try.underlying24 rfl (by kernel_rfl)) rfl ?_
            exact ⟨_, by first | rfl | (simp [errW_none, errW_some] <;> rfl) | (simp [*, errW_none, errW_some] <;> rfl), by (with_reducible repeat (first | apply Kd.R_alloc | apply Kd.R_drewN | apply Kd.R_drew)); exact Kd.R_mono (Kd.R_far (p := ⟨gb2, 5, none⟩) (Kd.R_far (p := ⟨gb2, 4, none⟩) (Kd.R_far (p := ⟨gb2, 3, none⟩) (Kd.R_far (p := ⟨gb2, 2, none⟩) (Kd.R_far (p := ⟨gb2, 1, none⟩) (Kd.R_far (p := ⟨gb2, 0, none⟩) (Kd.R_types HO_8005.out BK2.out (by decide)) (fun _ hk => hk.2) (.int .i64 (wrap64 (6 + t3)))) (fun _ hk => hk.2) (.int .i64 (wrap64 ((wrap64 (4 * (wrap64 ((wrap64 (t4 + t5)) + 1)))) + t10)))) (fun _ hk => hk.2) (.int .i64 t4)) (fun _ hk => hk.2) (.int .i64 t5)) (fun _ hk => hk.2) (.int .i64 x8004_6)) (fun _ hk => hk.2) (.slice Ao57 x8005_2.length co57)) (fun _ hk => trivial), by repeat (first | (with_reducible first | exact HB.out | apply below_alloc | apply pw_below_drewN | apply below_drew1 | refine below_set ?_ GE1.out | refine below_set ?_ GE2.out | refine below_set ?_ GE7.out) | exact HB.out)⟩

end Go.Proofs.Ytkelibikjkgohaa.P

namespace Go.Proofs.Ytkelibikjkgohaa.P
open Go.RowKit Go.Proofs.YtkelibikjkgohaaW.PrintWords Go.Proofs.YtkelibikjkgohaaW.PrintLast Go.Proofs.YtkelibikjkgohaaW.PrintMore
attribute [local go_sem] max2_int min2_int max_two min_two max_three min_three max_four min_four
set_option linter.unusedVariables false
set_option linter.unusedSimpArgs false
/-! ### plaitingref4_Ends: function 37 -/
def plaitingref4_Ends.f (a0 : Int) (a1 : Int) : Option (Int × Int) := if a1 < a0 then (if a0 = 0 then (none) else (some (a1, Int.tmod (wrap64 (a1 + 1)) a0))) else (if a0 = 0 then (none) else (some (wrap64 (a1 - a0), Int.tmod (wrap64 ((wrap64 (a1 - a0)) + 2)) a0)))
set_option maxHeartbeats 8000000 in
set_option maxRecDepth 100000 in
theorem plaitingref4_Ends.calls (a0 : Int) (a1 : Int) (r1 : Int) (r2 : Int) (w : World) (h : plaitingref4_Ends.f a0 a1 = some (r1, r2)) :
    Calls Try.prog 37 #[.int .i64 a0, .int .i64 a1] w fun e w' => e = .returned (.tuple #[.int .i64 r1, .int .i64 r2]) ∧ Drawn0 w w' := by
  have H : (if a1 < a0 then (if a0 = 0 then (none) else (some (a1, Int.tmod (wrap64 (a1 + 1)) a0))) else (if a0 = 0 then (none) else (some (wrap64 (a1 - a0), Int.tmod (wrap64 ((wrap64 (a1 - a0)) + 2)) a0)))) = some (r1, r2) := h
  clear h
  by_cases c3 : a1 < a0
  · rw [if_pos c3] at H
    have c3b0 : decide (a1 < a0) = true := decide_eq_true c3
    clear c3
    by_cases c4 : a0 = 0
    · rw [if_pos c4] at H
      exact absurd H (by simp)
    · rw [if_neg c4] at H
      have c4b0 : (a0 == 0) = false := beq_eq_false_iff_ne.mpr c4
      have c4b1 : (a0 != 0) = true := bne_iff_ne.mpr c4
      simp only [Option.some.injEq, Prod.mk.injEq] at H
      obtain ⟨rfl, rfl⟩ := H
      go_enter Try.func37, Try.ntmps37
      go_wp2
      repeat (go_quiet (fail); try go_wp2)
      go_ret2
      exact ⟨by first | rfl | (simp; done) | (simp [*]; done), by repeat (first | exact Drawn0.refl _ | apply Drawn0.step)⟩
  · rw [if_neg c3] at H
    have c3b0 : decide (a1 < a0) = false := decide_eq_false c3
    clear c3
    by_cases c5 : a0 = 0
    · rw [if_pos c5] at H
      exact absurd H (by simp)
    · rw [if_neg c5] at H
      have c5b0 : (a0 == 0) = false := beq_eq_false_iff_ne.mpr c5
      have c5b1 : (a0 != 0) = true := bne_iff_ne.mpr c5
      simp only [Option.some.injEq, Prod.mk.injEq] at H
      obtain ⟨rfl, rfl⟩ := H
      go_enter Try.func37, Try.ntmps37
      go_wp2
      repeat (go_quiet (fail); try go_wp2)
      go_ret2
      exact ⟨by first | rfl | (simp; done) | (simp [*]; done), by repeat (first | exact Drawn0.refl _ | apply Drawn0.step)⟩

end Go.Proofs.Ytkelibikjkgohaa.P

namespace Go.Proofs.Ytkelibikjkgohaa.P
open Go.RowKit Go.Proofs.YtkelibikjkgohaaW.PrintWords Go.Proofs.YtkelibikjkgohaaW.PrintLast Go.Proofs.YtkelibikjkgohaaW.PrintMore
attribute [local go_sem] max2_int min2_int max_two min_two max_three min_three max_four min_four
set_option linter.unusedVariables false
set_option linter.unusedSimpArgs false
/-! ### plaitingref4_Link: function 50 -/
def plaitingref4_Link.l0 : Nat → Int → Int → Int → Int → Option (Int × Bool)
  | 0, _, _, _, _ => none
  | k + 1, x0, x1, x2, x8 => if x8 < (wrap64 (2 * x0)) then ((plaitingref4_Ends.f x0 x8).bind fun bt1 => (if bt1.1 = x1 then (if bt1.2 = x2 then (some (x8, true)) else (if bt1.1 = x2 then (if bt1.2 = x1 then (some (x8, true)) else (plaitingref4_Link.l0 k x0 x1 x2 (wrap64 (x8 + 1)))) else (plaitingref4_Link.l0 k x0 x1 x2 (wrap64 (x8 + 1))))) else (if bt1.1 = x2 then (if bt1.2 = x1 then (some (x8, true)) else (plaitingref4_Link.l0 k x0 x1 x2 (wrap64 (x8 + 1)))) else (plaitingref4_Link.l0 k x0 x1 x2 (wrap64 (x8 + 1)))))) else (some (0, false))
def plaitingref4_Link.f (k : Nat) (a0 : Int) (a1 : Int) (a2 : Int) : Option (Int × Bool) := plaitingref4_Link.l0 k a0 a1 a2 0
theorem plaitingref4_Link.mono_l : ∀ k, (∀ y0 y1 y2 y3, LeO (plaitingref4_Link.l0 k y0 y1 y2 y3) (plaitingref4_Link.l0 (k + 1) y0 y1 y2 y3))
  | 0 => fun _ _ _ _ r h => by simp [plaitingref4_Link.l0] at h
  | k + 1 => by
    have ih0 := plaitingref4_Link.mono_l k
    · intro y0 y1 y2 y3
      unfold plaitingref4_Link.l0
      repeat' first
      | (with_reducible exact ih0 _ _ _ _)
      | (with_reducible exact LeO.refl _)
      | (with_reducible exact LeO.none _)
      | (with_reducible refine LeO.ite ?_ ?_)
      | (with_reducible refine LeO.bind ?_ (fun _ => ?_))
      | exact ih0 _ _ _ _
      | exact LeO.none _
      | refine LeO.ite ?_ ?_
      | refine LeO.bind ?_ (fun _ => ?_)
theorem plaitingref4_Link.mono : ∀ a0 a1 a2 k, LeO (plaitingref4_Link.f k a0 a1 a2) (plaitingref4_Link.f (k + 1) a0 a1 a2) := by
  intro a0 a1 a2 k
  have ih0 := plaitingref4_Link.mono_l k
  unfold plaitingref4_Link.f
  repeat' first
      | (with_reducible exact ih0 _ _ _ _)
      | (with_reducible exact LeO.refl _)
      | (with_reducible exact LeO.none _)
      | (with_reducible refine LeO.ite ?_ ?_)
      | (with_reducible refine LeO.bind ?_ (fun _ => ?_))
      | exact ih0 _ _ _ _
      | exact LeO.none _
      | refine LeO.ite ?_ ?_
      | refine LeO.bind ?_ (fun _ => ?_)
set_option maxHeartbeats 8000000 in
set_option maxRecDepth 100000 in
theorem plaitingref4_Link.calls (k : Nat) (a0 : Int) (a1 : Int) (a2 : Int) (r1 : Int) (r2 : Bool) (w : World) (h : plaitingref4_Link.f k a0 a1 a2 = some (r1, r2)) :
    Calls Try.prog 50 #[.int .i64 a0, .int .i64 a1, .int .i64 a2] w fun e w' => e = .returned (.tuple #[.int .i64 r1, .bool r2]) ∧ Drawn0 w w' := by
  have H : (plaitingref4_Link.l0 k a0 a1 a2 0) = some (r1, r2) := h
  clear h
  have H' := Aside0.mk H
  clear H
  go_enter Try.func50, Try.ntmps50
  go_wp2
  go_loopg [8] k (fun kq v8 w' => ∃ (x8_1 : Int), v8 = .int .i64 x8_1 ∧ Aside0 (plaitingref4_Link.l0 kq a0 a1 a2 x8_1 = some (r1, r2)) ∧ Aside0 (kq ≤ k) ∧ Drawn0 w w')
  case atStart => exact ⟨(0), (by first | rfl | (simp; done) | (simp [*]; done)), H', ⟨Nat.le_refl _⟩, by repeat (first | exact Drawn0.refl _ | apply Drawn0.step)⟩
  case round =>
    clear H'
    try clear p2
    obtain ⟨x8_1, rfl, HA, HK1, ⟨m1, rfl⟩⟩ := hrel
    cases gk with
    | zero => exact absurd HA.out (by simp [plaitingref4_Link.l0])
    | succ k1 =>
      have H := HA.out
      clear HA
      simp only [plaitingref4_Link.l0] at H
      by_cases c4 : x8_1 < (wrap64 (2 * a0))
      · rw [if_pos c4] at H
        have c4b0 : decide (x8_1 < (wrap64 (2 * a0))) = true := decide_eq_true c4
        clear c4
        replace H := Option.bind_eq_some_iff.mp H
        obtain ⟨⟨t1, t2⟩, A50, H⟩ := H
        replace H : (if t1 = a1 then (if t2 = a2 then (some (x8_1, true)) else (if t1 = a2 then (if t2 = a1 then (some (x8_1, true)) else (plaitingref4_Link.l0 k1 a0 a1 a2 (wrap64 (x8_1 + 1)))) else (plaitingref4_Link.l0 k1 a0 a1 a2 (wrap64 (x8_1 + 1))))) else (if t1 = a2 then (if t2 = a1 then (some (x8_1, true)) else (plaitingref4_Link.l0 k1 a0 a1 a2 (wrap64 (x8_1 + 1)))) else (plaitingref4_Link.l0 k1 a0 a1 a2 (wrap64 (x8_1 + 1))))) = some (r1, r2) := H
        have A5 := Aside0.mk A50
        clear A50
        by_cases c6 : t1 = a1
        · rw [if_pos c6] at H
          have c6b0 : (t1 == a1) = true := beq_iff_eq.mpr c6
          have c6b1 : (t1 != a1) = false := bne_eq_false_iff_eq.mpr c6
          clear c6
          by_cases c7 : t2 = a2
          · rw [if_pos c7] at H
            have c7b0 : (t2 == a2) = true := beq_iff_eq.mpr c7
            have c7b1 : (t2 != a2) = false := bne_eq_false_iff_eq.mpr c7
            clear c7
            simp only [Option.some.injEq, Prod.mk.injEq] at H
            obtain ⟨rfl, rfl⟩ := H
            go_wp2_with (first | ((with_reducible refine gate_callee (f := 37) rfl ?_); refine goesL_ (some 20) rfl rfl Try.func37 (by kernel_rfl) rfl #[.int .i64 a0, .int .i64 x8_1] rfl (by (try simp only [List.map_toArray, List.map_cons, List.map_nil]); first | done | rfl | (simp only [List.length_drop, List.length_take]; rfl)) ?_; (with_reducible refine (plaitingref4_Ends.calls a0 x8_1 t1 t2 _ A5.out).mono ?_); rintro e w' ⟨rfl, ⟨nd, rfl⟩⟩; refine ⟨_, rfl, ?_⟩))
            go_ret2
            exact ⟨by first | rfl | (simp; done) | (simp [*]; done), by repeat (first | exact Drawn0.refl _ | apply Drawn0.step)⟩
          · rw [if_neg c7] at H
            have c7b0 : (t2 == a2) = false := beq_eq_false_iff_ne.mpr c7
            have c7b1 : (t2 != a2) = true := bne_iff_ne.mpr c7
            by_cases c8 : t1 = a2
            · rw [if_pos c8] at H
              have c8b0 : (t1 == a2) = true := beq_iff_eq.mpr c8
              have c8b1 : (t1 != a2) = false := bne_eq_false_iff_eq.mpr c8
              clear c8
              by_cases c9 : t2 = a1
              · rw [if_pos c9] at H
                have c9b0 : (t2 == a1) = true := beq_iff_eq.mpr c9
                have c9b1 : (t2 != a1) = false := bne_eq_false_iff_eq.mpr c9
                clear c9
                simp only [Option.some.injEq, Prod.mk.injEq] at H
                obtain ⟨rfl, rfl⟩ := H
                go_wp2_with (first | ((with_reducible refine gate_callee (f := 37) rfl ?_); refine goesL_ (some 20) rfl rfl Try.func37 (by kernel_rfl) rfl #[.int .i64 a0, .int .i64 x8_1] rfl (by (try simp only [List.map_toArray, List.map_cons, List.map_nil]); first | done | rfl | (simp only [List.length_drop, List.length_take]; rfl)) ?_; (with_reducible refine (plaitingref4_Ends.calls a0 x8_1 t1 t2 _ A5.out).mono ?_); rintro e w' ⟨rfl, ⟨nd, rfl⟩⟩; refine ⟨_, rfl, ?_⟩))
                go_ret2
                exact ⟨by first | rfl | (simp; done) | (simp [*]; done), by repeat (first | exact Drawn0.refl _ | apply Drawn0.step)⟩
              · rw [if_neg c9] at H
                have c9b0 : (t2 == a1) = false := beq_eq_false_iff_ne.mpr c9
                have c9b1 : (t2 != a1) = true := bne_iff_ne.mpr c9
                have H' := Aside0.mk H
                clear H
                go_wp2_with (first | ((with_reducible refine gate_callee (f := 37) rfl ?_); refine goesL_ (some 20) rfl rfl Try.func37 (by kernel_rfl) rfl #[.int .i64 a0, .int .i64 x8_1] rfl (by (try simp only [List.map_toArray, List.map_cons, List.map_nil]); first | done | rfl | (simp only [List.length_drop, List.length_take]; rfl)) ?_; (with_reducible refine (plaitingref4_Ends.calls a0 x8_1 t1 t2 _ A5.out).mono ?_); rintro e w' ⟨rfl, ⟨nd, rfl⟩⟩; refine ⟨_, rfl, ?_⟩))
                go_roundg k1
                case measure => have := HK1.out; omega
                case rel => exact ⟨(wrap64 (x8_1 + 1)), (by first | rfl | (simp; done) | (simp [*]; done)), H', ⟨by have := HK1.out; omega⟩, by repeat (first | exact Drawn0.refl _ | apply Drawn0.step)⟩
            · rw [if_neg c8] at H
              have c8b0 : (t1 == a2) = false := beq_eq_false_iff_ne.mpr c8
              have c8b1 : (t1 != a2) = true := bne_iff_ne.mpr c8
              have H' := Aside0.mk H
              clear H
              go_wp2_with (first | ((with_reducible refine gate_callee (f := 37) rfl ?_); refine goesL_ (some 20) rfl rfl Try.func37 (by kernel_rfl) rfl #[.int .i64 a0, .int .i64 x8_1] rfl (by (try simp only [List.map_toArray, List.map_cons, List.map_nil]); first | done | rfl | (simp only [List.length_drop, List.length_take]; rfl)) ?_; (with_reducible refine (plaitingref4_Ends.calls a0 x8_1 t1 t2 _ A5.out).mono ?_); rintro e w' ⟨rfl, ⟨nd, rfl⟩⟩; refine ⟨_, rfl, ?_⟩))
              go_roundg k1
              case measure => have := HK1.out; omega
              case rel => exact ⟨(wrap64 (x8_1 + 1)), (by first | rfl | (simp; done) | (simp [*]; done)), H', ⟨by have := HK1.out; omega⟩, by repeat (first | exact Drawn0.refl _ | apply Drawn0.step)⟩
        · rw [if_neg c6] at H
          have c6b0 : (t1 == a1) = false := beq_eq_false_iff_ne.mpr c6
          have c6b1 : (t1 != a1) = true := bne_iff_ne.mpr c6
          by_cases c10 : t1 = a2
          · rw [if_pos c10] at H
            have c10b0 : (t1 == a2) = true := beq_iff_eq.mpr c10
            have c10b1 : (t1 != a2) = false := bne_eq_false_iff_eq.mpr c10
            clear c10
            by_cases c11 : t2 = a1
            · rw [if_pos c11] at H
              have c11b0 : (t2 == a1) = true := beq_iff_eq.mpr c11
              have c11b1 : (t2 != a1) = false := bne_eq_false_iff_eq.mpr c11
              clear c11
              simp only [Option.some.injEq, Prod.mk.injEq] at H
              obtain ⟨rfl, rfl⟩ := H
              go_wp2_with (first | ((with_reducible refine gate_callee (f := 37) rfl ?_); refine goesL_ (some 20) rfl rfl Try.func37 (by kernel_rfl) rfl #[.int .i64 a0, .int .i64 x8_1] rfl (by (try simp only [List.map_toArray, List.map_cons, List.map_nil]); first | done | rfl | (simp only [List.length_drop, List.length_take]; rfl)) ?_; (with_reducible refine (plaitingref4_Ends.calls a0 x8_1 t1 t2 _ A5.out).mono ?_); rintro e w' ⟨rfl, ⟨nd, rfl⟩⟩; refine ⟨_, rfl, ?_⟩))
              go_ret2
              exact ⟨by first | rfl | (simp; done) | (simp [*]; done), by repeat (first | exact Drawn0.refl _ | apply Drawn0.step)⟩
            · rw [if_neg c11] at H
              have c11b0 : (t2 == a1) = false := beq_eq_false_iff_ne.mpr c11
              have c11b1 : (t2 != a1) = true := bne_iff_ne.mpr c11
              have H' := Aside0.mk H
              clear H
              go_wp2_with (first | ((with_reducible refine gate_callee (f := 37) rfl ?_); refine goesL_ (some 20) rfl rfl Try.func37 (by kernel_rfl) rfl #[.int .i64 a0, .int .i64 x8_1] rfl (by (try simp only [List.map_toArray, List.map_cons, List.map_nil]); first | done | rfl | (simp only [List.length_drop, List.length_take]; rfl)) ?_; (with_reducible refine (plaitingref4_Ends.calls a0 x8_1 t1 t2 _ A5.out).mono ?_); rintro e w' ⟨rfl, ⟨nd, rfl⟩⟩; refine ⟨_, rfl, ?_⟩))
              go_roundg k1
              case measure => have := HK1.out; omega
              case rel => exact ⟨(wrap64 (x8_1 + 1)), (by first | rfl | (simp; done) | (simp [*]; done)), H', ⟨by have := HK1.out; omega⟩, by repeat (first | exact Drawn0.refl _ | apply Drawn0.step)⟩
          · rw [if_neg c10] at H
            have c10b0 : (t1 == a2) = false := beq_eq_false_iff_ne.mpr c10
            have c10b1 : (t1 != a2) = true := bne_iff_ne.mpr c10
            have H' := Aside0.mk H
            clear H
            go_wp2_with (first | ((with_reducible refine gate_callee (f := 37) rfl ?_); refine goesL_ (some 20) rfl rfl Try.func37 (by kernel_rfl) rfl #[.int .i64 a0, .int .i64 x8_1] rfl (by (try simp only [List.map_toArray, List.map_cons, List.map_nil]); first | done | rfl | (simp only [List.length_drop, List.length_take]; rfl)) ?_; (with_reducible refine (plaitingref4_Ends.calls a0 x8_1 t1 t2 _ A5.out).mono ?_); rintro e w' ⟨rfl, ⟨nd, rfl⟩⟩; refine ⟨_, rfl, ?_⟩))
            go_roundg k1
            case measure => have := HK1.out; omega
            case rel => exact ⟨(wrap64 (x8_1 + 1)), (by first | rfl | (simp; done) | (simp [*]; done)), H', ⟨by have := HK1.out; omega⟩, by repeat (first | exact Drawn0.refl _ | apply Drawn0.step)⟩
      · rw [if_neg c4] at H
        have c4b0 : decide (x8_1 < (wrap64 (2 * a0))) = false := decide_eq_false c4
        clear c4
        simp only [Option.some.injEq, Prod.mk.injEq] at H
        obtain ⟨rfl, rfl⟩ := H
        go_wp2
        go_ret2
        exact ⟨by first | rfl | (simp; done) | (simp [*]; done), by repeat (first | exact Drawn0.refl _ | apply Drawn0.step)⟩

end Go.Proofs.Ytkelibikjkgohaa.P

namespace Go.Proofs.Ytkelibikjkgohaa.P
set_option linter.unusedVariables false
open Go.RowKit Go.Proofs.YtkelibikjkgohaaW.PrintWords Go.Proofs.YtkelibikjkgohaaW.PrintLast Go.Proofs.YtkelibikjkgohaaW.PrintMore

theorem within_eq (x m : Int) (hm : 1 ≤ m ∧ m ≤ 4611686018427387904) : (if m = 0 then (none) else (if (Int.tmod x m) < 0 then (some (wrap64 ((Int.tmod x m) + m))) else (some (Int.tmod x m)))) = some (x % m) := by
  have h1 := Int.tmod_lt_of_pos x (show 0 < m by omega)
  have h2 := Int.lt_tmod_of_pos x (show 0 < m by omega)
  have h3 := Int.tmod_eq_emod (a := x) (b := m)
  rw [if_neg (by omega)]
  split
  · have e : wrap64 (Int.tmod x m + m) = Int.tmod x m + m := by unfold wrap64; omega
    rw [e]
    have h4 := Int.emod_nonneg x (show m ≠ 0 by omega)
    have h5 : Int.tmod x m = x % m ∨ Int.tmod x m = x % m - m := by
      rw [h3]; split
      · left; omega
      · right; omega
    rcases h5 with h | h
    · omega
    · rw [h]; congr 1; omega
  · congr 1
    have h4 := Int.emod_nonneg x (show m ≠ 0 by omega)
    have h6 := Int.emod_lt_of_pos x (show 0 < m by omega)
    have h5 : Int.tmod x m = x % m ∨ Int.tmod x m = x % m - m := by
      rw [h3]; split
      · left; omega
      · right; omega
    omega

theorem mod_in (x m : Int) (hm : 1 ≤ m) : 0 ≤ x % m ∧ x % m < m := ⟨Int.emod_nonneg x (by omega), Int.emod_lt_of_pos x (by omega)⟩

theorem make3_l0 (N : Int) (hN : 6 ≤ N ∧ N ≤ 12) (y0 y1 y2 y3 y4 : Int) (l : List Int) (pi e g fi : Int) : ∀ (k : Nat) (acc : List Int), 4 ≤ k + acc.length → acc.length ≤ 3 → (∀ a ∈ acc, -1 ≤ a ∧ a < N) →
    ∃ r : List Int, plaitinglaw3_Make.l0 k acc.length y0 y1 y2 y3 y4 l N pi e g fi acc = some (N, pi, e, g, fi, r) ∧ r.length ≤ 3 ∧ ∀ a ∈ r, -1 ≤ a ∧ a < N
  | 0, acc, hk, hl, _ => by omega
  | k + 1, acc, hk, hl, ha => by
    unfold plaitinglaw3_Make.l0
    by_cases h1 : (acc.length : Int) < l.length
    · rw [if_pos h1]
      by_cases h2 : (acc.length : Int) < 3
      · have hw : plaitinglaw3_within.f (rd l acc.length) (wrap64 (N + 1)) = some ((rd l acc.length) % (N + 1)) := by
          have e : wrap64 (N + 1) = N + 1 := by unfold wrap64; omega
          rw [e]; exact within_eq _ _ ⟨by omega, by omega⟩
        have hm := mod_in (rd l acc.length) (N + 1) (by omega)
        rw [if_pos h2, if_pos (by omega), hw]
        dsimp only [Option.bind]
        rw [if_pos (by omega)]
        have e1 : wrap64 ((acc.length : Int) + 1) = ((acc ++ [wrap64 (rd l acc.length % (N + 1) - 1)]).length : Int) := by
          rw [List.length_append, List.length_singleton]; unfold wrap64; omega
        rw [e1]
        refine make3_l0 N hN y0 y1 y2 y3 y4 l pi e g fi k _ ?_ ?_ ?_
        · rw [List.length_append, List.length_singleton]; omega
        · rw [List.length_append, List.length_singleton]; omega
        · intro a hh
          rcases List.mem_append.1 hh with h | h
          · exact ha a h
          · rw [List.mem_singleton] at h
            subst h
            unfold wrap64; omega
      · rw [if_neg h2]; exact ⟨acc, rfl, hl, ha⟩
    · rw [if_neg h1]; exact ⟨acc, rfl, hl, ha⟩

theorem make3_j0 (N : Int) (hN : 6 ≤ N ∧ N ≤ 12) (y0 y1 y2 y3 y4 : Int) (l : List Int) (pi e g fi : Int) (he : 0 ≤ e ∧ e < 21) (hg : 0 ≤ g ∧ g < 21) (hf : 0 ≤ fi ∧ fi ≤ 65535) :
    ∃ d : Sp.Conf, COk d ∧ plaitinglaw3_Make.j0 (10 + 1) y0 y1 y2 y3 y4 l N pi e g fi = some (d.f0, d.f1, d.f2, d.f3, d.f4, d.f5) := by
  have hw : plaitinglaw3_within.f y1 100 = some (y1 % 100) := within_eq _ _ (by omega)
  have hm := mod_in y1 100 (by omega)
  have ep : wrap64 ((wrap64 (4 * (wrap64 ((wrap64 (e + g)) + 1)))) + y1 % 100) = 4 * (e + g + 1) + y1 % 100 := by unfold wrap64; omega
  obtain ⟨r, h1, h2, h3⟩ := make3_l0 N hN y0 y1 y2 y3 y4 l (4 * (e + g + 1) + y1 % 100) e g fi 10 [] (by simp) (by simp) (by simp)
  refine ⟨⟨N, 4 * (e + g + 1) + y1 % 100, e, g, fi, r⟩, ?_, ?_⟩
  · show confOk _ _ _ _ _ _
    refine ⟨hN, by dsimp only; omega, by dsimp only; omega, hf, by dsimp only; omega, h2, h3⟩
  · have step : ∀ k, plaitinglaw3_Make.j0 (k + 1) y0 y1 y2 y3 y4 l N pi e g fi = (plaitinglaw3_within.f y1 100).bind fun t182 => (plaitinglaw3_Make.l0 k 0 y0 y1 y2 y3 y4 l N (wrap64 ((wrap64 (4 * (wrap64 ((wrap64 (e + g)) + 1)))) + t182)) e g fi ([] : List Int)) := fun _ => rfl
    rw [step 10, hw]
    dsimp only [Option.bind]
    rw [ep]
    exact h1

theorem make3_f (y0 y1 y2 y3 y4 : Int) (l : List Int) : ∃ d : Sp.Conf, COk d ∧ plaitinglaw3_Make.f (10 + 1) y0 y1 y2 y3 y4 l = some (d.f0, d.f1, d.f2, d.f3, d.f4, d.f5) := by
  have w7 : plaitinglaw3_within.f y0 7 = some (y0 % 7) := within_eq _ _ (by omega)
  have w21 : plaitinglaw3_within.f y2 21 = some (y2 % 21) := within_eq _ _ (by omega)
  have w21' : plaitinglaw3_within.f y3 21 = some (y3 % 21) := within_eq _ _ (by omega)
  have w65 : plaitinglaw3_within.f y4 65536 = some (y4 % 65536) := within_eq _ _ (by omega)
  have w3 : plaitinglaw3_within.f y4 3 = some (y4 % 3) := within_eq _ _ (by omega)
  have w40 : plaitinglaw3_within.f y4 40 = some (y4 % 40) := within_eq _ _ (by omega)
  have m1 := mod_in y0 7 (by omega)
  have m2 := mod_in y2 21 (by omega)
  have m3 := mod_in y3 21 (by omega)
  have m4 := mod_in y4 65536 (by omega)
  have m5 := mod_in y4 40 (by omega)
  have e0 : wrap64 (6 + y0 % 7) = 6 + y0 % 7 := by unfold wrap64; omega
  have e1 : wrap64 (65535 - y4 % 40) = 65535 - y4 % 40 := by unfold wrap64; omega
  unfold plaitinglaw3_Make.f
  rw [w7, w21, w21', w65, w3]
  dsimp only [Option.bind]
  rw [e0]
  split
  · rw [w40]
    dsimp only
    rw [e1]
    exact make3_j0 _ ⟨by omega, by omega⟩ _ _ _ _ _ _ _ _ _ _ m2 m3 ⟨by omega, by omega⟩
  · exact make3_j0 _ ⟨by omega, by omega⟩ _ _ _ _ _ _ _ _ _ _ m2 m3 ⟨by omega, by omega⟩

/-- what Make answers -/
theorem make3_calls (y0 y1 y2 y3 y4 : Int) (l : List Int) : ∃ d : Sp.Conf, COk d ∧ ∀ (A : Option Addr) (cp : Nat) (w : World), Kd.C (Kd.int .i64) w A l.length l → l.length ≤ cp →
    Calls Try.prog 22 #[.agg #[.int .i64 y0, .int .i64 y1, .int .i64 y2, .int .i64 y3, .int .i64 y4, .slice A l.length cp]] w fun e w' => ∃ (A' : Option Addr) (cp' : Nat), e = .returned (.agg #[.int .i64 d.f0, .int .i64 d.f1, .int .i64 d.f2, .int .i64 d.f3, .int .i64 d.f4, .slice A' d.f5.length cp']) ∧ d.f5.length ≤ cp' ∧ Kd.C (Kd.int .i64) w' A' d.f5.length d.f5 ∧ Below w.heap.size w w' := by
  obtain ⟨d, h1, h2⟩ := make3_f y0 y1 y2 y3 y4 l
  refine ⟨d, h1, fun A cp w hr hc => ?_⟩
  refine (plaitinglaw3_Make.calls (10 + 1) y0 y1 y2 y3 y4 A cp l d.f0 d.f1 d.f2 d.f3 d.f4 d.f5 w hr hc h2).mono ?_
  rintro e w' ⟨v, rfl, hR, hB⟩
  obtain ⟨A', c', rfl, h3, h4⟩ := Kd.R_reads hR
  exact ⟨A', c', rfl, h3, h4, hB⟩

theorem ends_calls (N k : Int) (w : World) (hN : 6 ≤ N ∧ N ≤ 12) (hk : 0 ≤ k ∧ k < 2 * N) :
    Calls Try.prog 37 #[.int .i64 N, .int .i64 k] w fun e w' => e = .returned (.tuple #[.int .i64 (if k < N then k else k - N), .int .i64 (if k < N then (k + 1) % N else (k - N + 2) % N)]) ∧ ∃ m, w' = w.drewN m := by
  refine (plaitingref4_Ends.calls N k _ _ w ?_).mono fun e w' ⟨h1, h2⟩ => ⟨h1, h2.out⟩
  unfold plaitingref4_Ends.f
  by_cases h : k < N
  · rw [if_pos h, if_neg (by omega), if_pos h, if_pos h]
    have e : wrap64 (k + 1) = k + 1 := by unfold wrap64; omega
    rw [e, Int.tmod_eq_emod_of_nonneg (by omega)]
  · rw [if_neg h, if_neg (by omega), if_neg h, if_neg h]
    have e : wrap64 (k - N) = k - N := by unfold wrap64; omega
    have e2 : wrap64 (k - N + 2) = k - N + 2 := by unfold wrap64; omega
    rw [e, e2, Int.tmod_eq_emod_of_nonneg (by omega)]

def rlinkOk (N a b : Nat) : Bool := !(decide (6 ≤ N) && decide (a < N) && decide (b < N)) || (match plaitingref4_Link.f 30 N a b with | some x => x.1 == (linkB N a b).1 && x.2 == (linkB N a b).2 | none => false)
theorem rlink_all : (List.range 13).all (fun N => (List.range 13).all fun a => (List.range 13).all fun b => rlinkOk N a b) = true := by kernel_rfl
theorem rlink_f (N a b : Nat) (hN : N < 13) (h6 : 6 ≤ N) (ha : a < N) (hb : b < N) : plaitingref4_Link.f 30 N a b = some (linkB N a b) := by
  have h := rlink_all
  rw [List.all_eq_true] at h
  have h := h N (List.mem_range.2 hN)
  rw [List.all_eq_true] at h
  have h := h a (List.mem_range.2 (by omega))
  rw [List.all_eq_true] at h
  have h := h b (List.mem_range.2 (by omega))
  unfold rlinkOk at h
  rw [decide_eq_true h6, decide_eq_true ha, decide_eq_true hb] at h
  split at h
  · rename_i x hx
    rw [hx]
    simp only [Bool.and_self, Bool.not_true, Bool.false_or, Bool.and_eq_true, beq_iff_eq] at h
    exact congrArg some (Prod.ext h.1 h.2)
  · simp at h

theorem rlink_calls (N a b : Int) (w : World) (hN : 6 ≤ N ∧ N ≤ 12) (ha : 0 ≤ a ∧ a < N) (hb : 0 ≤ b ∧ b < N) :
    Calls Try.prog 50 #[.int .i64 N, .int .i64 a, .int .i64 b] w fun e w' => e = .returned (.tuple #[.int .i64 (linkB N a b).1, .bool (linkB N a b).2]) ∧ ∃ m, w' = w.drewN m := by
  obtain ⟨N', rfl⟩ := Int.eq_ofNat_of_zero_le (show 0 ≤ N by omega)
  obtain ⟨a', rfl⟩ := Int.eq_ofNat_of_zero_le ha.1
  obtain ⟨b', rfl⟩ := Int.eq_ofNat_of_zero_le hb.1
  exact (plaitingref4_Link.calls 30 _ _ _ _ _ w (rlink_f N' a' b' (by omega) (by omega) (by omega) (by omega))).mono fun e w' ⟨h1, h2⟩ => ⟨h1, h2.out⟩
end Go.Proofs.Ytkelibikjkgohaa.P

namespace Go.Proofs.Ytkelibikjkgohaa.P
open Go.RowKit Go.Proofs.YtkelibikjkgohaaW.PrintWords Go.Proofs.YtkelibikjkgohaaW.PrintLast Go.Proofs.YtkelibikjkgohaaW.PrintMore
attribute [local go_sem] max2_int min2_int max_two min_two max_three min_three max_four min_four
set_option linter.unusedVariables false
set_option linter.unusedSimpArgs false
/-! ### plaitinglaw6_within: function 34 -/
def plaitinglaw6_within.f (a0 : Int) (a1 : Int) : Option (Int) := if a1 = 0 then (none) else (if (Int.tmod a0 a1) < 0 then (some (wrap64 ((Int.tmod a0 a1) + a1))) else (some (Int.tmod a0 a1)))
set_option maxHeartbeats 8000000 in
set_option maxRecDepth 100000 in
theorem plaitinglaw6_within.calls (a0 : Int) (a1 : Int) (r : Int) (w : World) (h : plaitinglaw6_within.f a0 a1 = some r) :
    Calls Try.prog 34 #[.int .i64 a0, .int .i64 a1] w fun e w' => e = .returned (.int .i64 r) ∧ Drawn0 w w' := by
  have H : (if a1 = 0 then (none) else (if (Int.tmod a0 a1) < 0 then (some (wrap64 ((Int.tmod a0 a1) + a1))) else (some (Int.tmod a0 a1)))) = some r := h
  clear h
  by_cases c3 : a1 = 0
  · rw [if_pos c3] at H
    exact absurd H (by simp)
  · rw [if_neg c3] at H
    have c3b0 : (a1 == 0) = false := beq_eq_false_iff_ne.mpr c3
    have c3b1 : (a1 != 0) = true := bne_iff_ne.mpr c3
    by_cases c4 : (Int.tmod a0 a1) < 0
    · rw [if_pos c4] at H
      have c4b0 : decide ((Int.tmod a0 a1) < 0) = true := decide_eq_true c4
      clear c4
      obtain rfl := Option.some.inj H
      go_enter Try.func34, Try.ntmps34
      go_wp2
      go_ret
      exact ⟨by first | rfl | (simp; done) | (simp [*]; done), by repeat (first | exact Drawn0.refl _ | apply Drawn0.step)⟩
    · rw [if_neg c4] at H
      have c4b0 : decide ((Int.tmod a0 a1) < 0) = false := decide_eq_false c4
      clear c4
      obtain rfl := Option.some.inj H
      go_enter Try.func34, Try.ntmps34
      go_wp2
      go_ret
      exact ⟨by first | rfl | (simp; done) | (simp [*]; done), by repeat (first | exact Drawn0.refl _ | apply Drawn0.step)⟩

end Go.Proofs.Ytkelibikjkgohaa.P

namespace Go.Proofs.Ytkelibikjkgohaa.P
set_option linter.unusedVariables false
open Go.RowKit Go.Proofs.YtkelibikjkgohaaW.PrintWords Go.Proofs.YtkelibikjkgohaaW.PrintLast Go.Proofs.YtkelibikjkgohaaW.PrintMore

theorem within6_calls (n m : Int) (w : World) (hm : 1 ≤ m ∧ m ≤ 4611686018427387904) :
    Calls Try.prog 34 #[.int .i64 n, .int .i64 m] w fun e w' => e = .returned (.int .i64 (n % m)) ∧ ∃ k, w' = w.drewN k :=
  (plaitinglaw6_within.calls n m (n % m) w (within_eq _ _ hm)).mono fun e w' ⟨h1, h2⟩ => ⟨h1, h2.out⟩

set_option maxRecDepth 100000 in
theorem check_kind9 (c0 c1 c2 c3 c4 : Int) (A0 : Option Addr) (n0 cp0 : Nat) (f1 f2 f3 : Int) (A4 : Option Addr) (n4 cp4 : Nat) (A5 : Option Addr) (n5 cp5 : Nat) (w : World) :
    Calls Try.prog 32 #[.agg #[.int .i64 c0, .int .i64 c1, .int .i64 c2, .int .i64 c3, .int .i64 c4, .slice A0 n0 cp0], .agg #[.int .i64 9, .int .i64 f1, .int .i64 f2, .int .i64 f3, .slice A4 n4 cp4, .slice A5 n5 cp5]] w fun e w' => e = .returned (.int .i64 6) ∧ Below w.heap.size w w' := by
  go_enter Try.func32, Try.ntmps32
  go_wp2
  go_ret
  exact ⟨rfl, by repeat (first | exact Below.refl _ _ | apply below_alloc)⟩

set_option maxRecDepth 100000 in
set_option maxHeartbeats 4000000 in
theorem known6_calls (w : World) : Calls Try.prog 29 #[] w fun e w' => e = .returned (.bool true) ∧ Below w.heap.size w w' := by
  have HE : Hid (∀ W : World, Calls Try.prog 38 #[.agg #[.int .i64 6, .int .i64 4, .int .i64 0, .int .i64 0, .int .i64 0, .slice none 0 0], .agg #[.int .i64 0, .int .i64 0, .int .i64 0, .int .i64 0, .slice none 0 0, .slice none 0 0], .int .i64 0, .int .i64 0, .int .i64 0, .int .i64 1, .string ⟨#[48, 49]⟩] W fun e w' => e = .returned (.string ⟨#[48, 49]⟩) ∧ Below W.heap.size W w') := Lib.hid (fun W => emit_off ⟨6, 4, 0, 0, 0, []⟩ none 0 ⟨0, 0, 0, 0, [], []⟩ none 0 none 0 0 0 0 1 ⟨#[48, 49]⟩ W (by decide) (Kd.C_nil _ W) (by simp) (fun h => absurd h (by decide)) (by decide))
  have HR : Hid (∀ W : World, Calls Try.prog 42 #[.agg #[.int .i64 6, .int .i64 4, .int .i64 0, .int .i64 0, .int .i64 0, .slice none 0 0], .agg #[.int .i64 0, .int .i64 0, .int .i64 0, .int .i64 0, .slice none 0 0, .slice none 0 0], .int .i64 0, .int .i64 0] W fun e w' => e = .returned (.bool true) ∧ Below W.heap.size W w') := Lib.hid (fun W => right_any 6 4 0 0 0 none 0 0 0 0 0 0 none 0 0 none 0 0 0 0 W)
  go_enter Try.func29, Try.ntmps29
  go_wp2_with (first | (go_at_call 38; (with_reducible refine (HE.out _).mono ?_); rintro e w1 ⟨rfl, hb⟩; have B1 := Lib.hid (below_step (below_alloc (Below.refl _ _) _) hb); have z0 : w1.cell? ⟨w.heap.size, 0, none⟩ = some (.int .i64 6) := (hb.cell (p := ⟨w.heap.size, 0, none⟩) (by simp)).trans (by go_simp); have z1 : w1.cell? ⟨w.heap.size, 1, none⟩ = some (.int .i64 4) := (hb.cell (p := ⟨w.heap.size, 1, none⟩) (by simp)).trans (by go_simp); have z2 : w1.cell? ⟨w.heap.size, 2, none⟩ = some (.int .i64 0) := (hb.cell (p := ⟨w.heap.size, 2, none⟩) (by simp)).trans (by go_simp); have z3 : w1.cell? ⟨w.heap.size, 3, none⟩ = some (.int .i64 0) := (hb.cell (p := ⟨w.heap.size, 3, none⟩) (by simp)).trans (by go_simp); have z4 : w1.cell? ⟨w.heap.size, 4, none⟩ = some (.int .i64 0) := (hb.cell (p := ⟨w.heap.size, 4, none⟩) (by simp)).trans (by go_simp); have z5 : w1.cell? ⟨w.heap.size, 5, none⟩ = some (.slice none 0 0) := (hb.cell (p := ⟨w.heap.size, 5, none⟩) (by simp)).trans (by go_simp); clear hb) | (go_at_call 42; (with_reducible refine (HR.out _).mono ?_); rintro e w2 ⟨rfl, hb⟩; have B2 := Lib.hid (below_step B1.out hb); have y0 := pw_cell_below hb z0; have y1 := pw_cell_below hb z1; have y2 := pw_cell_below hb z2; have y3 := pw_cell_below hb z3; have y4 := pw_cell_below hb z4; have y5 := pw_cell_below hb z5; clear z0 z1 z2 z3 z4 z5 hb) | (go_at_call 32; (with_reducible refine (check_kind9 _ _ _ _ _ _ _ _ _ _ _ _ _ _ _ _ _ _).mono ?_); rintro e w3 ⟨rfl, hb⟩; have B3 := Lib.hid (below_step B2.out hb); clear hb))
  go_ret
  exact ⟨rfl, B3.out⟩
end Go.Proofs.Ytkelibikjkgohaa.P

namespace Go.Proofs.Ytkelibikjkgohaa.P
open Go.RowKit Go.Proofs.YtkelibikjkgohaaW.PrintWords Go.Proofs.YtkelibikjkgohaaW.PrintLast Go.Proofs.YtkelibikjkgohaaW.PrintMore
attribute [local go_sem] max2_int min2_int max_two min_two max_three min_three max_four min_four
set_option linter.unusedVariables false
set_option linter.unusedSimpArgs false
/-! ### plaitinglaw1_within: function 82 -/
def plaitinglaw1_within.f (a0 : Int) (a1 : Int) : Option (Int) := if a1 = 0 then (none) else (if (Int.tmod a0 a1) < 0 then (some (wrap64 ((Int.tmod a0 a1) + a1))) else (some (Int.tmod a0 a1)))
set_option maxHeartbeats 8000000 in
set_option maxRecDepth 100000 in
theorem plaitinglaw1_within.calls (a0 : Int) (a1 : Int) (r : Int) (w : World) (h : plaitinglaw1_within.f a0 a1 = some r) :
    Calls Try.prog 82 #[.int .i64 a0, .int .i64 a1] w fun e w' => e = .returned (.int .i64 r) ∧ Drawn0 w w' := by
  have H : (if a1 = 0 then (none) else (if (Int.tmod a0 a1) < 0 then (some (wrap64 ((Int.tmod a0 a1) + a1))) else (some (Int.tmod a0 a1)))) = some r := h
  clear h
  by_cases c3 : a1 = 0
  · rw [if_pos c3] at H
    exact absurd H (by simp)
  · rw [if_neg c3] at H
    have c3b0 : (a1 == 0) = false := beq_eq_false_iff_ne.mpr c3
    have c3b1 : (a1 != 0) = true := bne_iff_ne.mpr c3
    by_cases c4 : (Int.tmod a0 a1) < 0
    · rw [if_pos c4] at H
      have c4b0 : decide ((Int.tmod a0 a1) < 0) = true := decide_eq_true c4
      clear c4
      obtain rfl := Option.some.inj H
      go_enter Try.func82, Try.ntmps82
      go_wp2
      go_ret
      exact ⟨by first | rfl | (simp; done) | (simp [*]; done), by repeat (first | exact Drawn0.refl _ | apply Drawn0.step)⟩
    · rw [if_neg c4] at H
      have c4b0 : decide ((Int.tmod a0 a1) < 0) = false := decide_eq_false c4
      clear c4
      obtain rfl := Option.some.inj H
      go_enter Try.func82, Try.ntmps82
      go_wp2
      go_ret
      exact ⟨by first | rfl | (simp; done) | (simp [*]; done), by repeat (first | exact Drawn0.refl _ | apply Drawn0.step)⟩

end Go.Proofs.Ytkelibikjkgohaa.P

namespace Go.Proofs.Ytkelibikjkgohaa.P
open Go.RowKit Go.Proofs.YtkelibikjkgohaaW.PrintWords Go.Proofs.YtkelibikjkgohaaW.PrintLast Go.Proofs.YtkelibikjkgohaaW.PrintMore
attribute [local go_sem] max2_int min2_int max_two min_two max_three min_three max_four min_four
set_option linter.unusedVariables false
set_option linter.unusedSimpArgs false
/-! ### plaitinglaw1_Text: function 44 -/
def plaitinglaw1_Text.l0 : Nat → List Int → ByteArray → Int → Option (ByteArray)
  | 0, _, _, _ => none
  | k + 1, x0, x3, x4 => if x4 < (x0.length : Int) then (if x4 < 80 then ((some (([(⟨#[48]⟩ : ByteArray), (⟨#[49]⟩ : ByteArray), (⟨#[48]⟩ : ByteArray), (⟨#[49]⟩ : ByteArray), (⟨#[48]⟩ : ByteArray), (⟨#[49]⟩ : ByteArray), (⟨#[48]⟩ : ByteArray), (⟨#[49]⟩ : ByteArray), (⟨#[35]⟩ : ByteArray), (⟨#[46]⟩ : ByteArray), (⟨#[120]⟩ : ByteArray)] : List ByteArray) : List ByteArray)).bind fun y1 => (if 0 ≤ x4 then ((plaitinglaw1_within.f (rd x0 x4) 11).bind fun t5 => (if 0 ≤ t5 then (if t5 < (y1.length : Int) then (if x3.size + (rdOf ByteArray.empty y1 t5).size ≤ 9223372036854775807 then (plaitinglaw1_Text.l0 k x0 (x3 ++ (rdOf ByteArray.empty y1 t5)) (wrap64 (x4 + 1))) else (none)) else (none)) else (none))) else (none))) else (some x3)) else (some x3)
def plaitinglaw1_Text.f (k : Nat) (l0 : List Int) : Option (ByteArray) := plaitinglaw1_Text.l0 k l0 (⟨#[]⟩ : ByteArray) 0
theorem plaitinglaw1_Text.mono_l : ∀ k, (∀ y0 y1 y2, LeO (plaitinglaw1_Text.l0 k y0 y1 y2) (plaitinglaw1_Text.l0 (k + 1) y0 y1 y2))
  | 0 => fun _ _ _ r h => by simp [plaitinglaw1_Text.l0] at h
  | k + 1 => by
    have ih0 := plaitinglaw1_Text.mono_l k
    · intro y0 y1 y2
      unfold plaitinglaw1_Text.l0
      repeat' first
      | (with_reducible exact ih0 _ _ _)
      | (with_reducible exact LeO.refl _)
      | (with_reducible exact LeO.none _)
      | (with_reducible refine LeO.ite ?_ ?_)
      | (with_reducible refine LeO.bind ?_ (fun _ => ?_))
      | exact ih0 _ _ _
      | exact LeO.none _
      | refine LeO.ite ?_ ?_
      | refine LeO.bind ?_ (fun _ => ?_)
theorem plaitinglaw1_Text.mono : ∀ a0 k, LeO (plaitinglaw1_Text.f k a0) (plaitinglaw1_Text.f (k + 1) a0) := by
  intro a0 k
  have ih0 := plaitinglaw1_Text.mono_l k
  unfold plaitinglaw1_Text.f
  repeat' first
      | (with_reducible exact ih0 _ _ _)
      | (with_reducible exact LeO.refl _)
      | (with_reducible exact LeO.none _)
      | (with_reducible refine LeO.ite ?_ ?_)
      | (with_reducible refine LeO.bind ?_ (fun _ => ?_))
      | exact ih0 _ _ _
      | exact LeO.none _
      | refine LeO.ite ?_ ?_
      | refine LeO.bind ?_ (fun _ => ?_)
set_option maxHeartbeats 8000000 in
set_option maxRecDepth 100000 in
theorem plaitinglaw1_Text.calls (k : Nat) (A0 : Option Addr) (c0 : Nat) (l0 : List Int) (r : ByteArray) (w : World) (hr0 : Kd.C (Kd.int .i64) w A0 l0.length l0) (hc0 : l0.length ≤ c0) (h : plaitinglaw1_Text.f k l0 = some r) :
    Calls Try.prog 44 #[.slice A0 l0.length c0] w fun e w' => e = .returned (.string r) ∧ Below w.heap.size w w' := by
  have HR0 := Aside0.mk hr0
  have HC0 := Aside0.mk hc0
  clear hr0 hc0
  have HB := Aside0.mk (Below.refl w.heap.size w)
  have H : (plaitinglaw1_Text.l0 k l0 (⟨#[]⟩ : ByteArray) 0) = some r := h
  clear h
  have H' := Aside0.mk H
  clear H
  go_enter Try.func44, Try.ntmps44
  go_wp2
  go_loopg [3, 4] k (fun kq v3 v4 w' => ∃ (x3_1 : ByteArray) (x4_1 : Int), v3 = .string x3_1 ∧ v4 = .int .i64 x4_1 ∧ Aside0 (plaitinglaw1_Text.l0 kq l0 x3_1 x4_1 = some r) ∧ Aside0 (kq ≤ k) ∧ Aside0 (Below w.heap.size w w'))
  case atStart => exact ⟨((⟨#[]⟩ : ByteArray)), (0), (by first | rfl | (simp; done) | (simp [*]; done)), (by first | rfl | (simp; done) | (simp [*]; done)), H', ⟨Nat.le_refl _⟩, ⟨by repeat (first | (with_reducible first | exact HB.out | apply below_alloc | apply pw_below_drewN | apply below_drew1) | exact HB.out)⟩⟩
  case round =>
    clear H'
    obtain ⟨x3_1, x4_1, rfl, rfl, HA, HK1, HB⟩ := hrel
    cases gk with
    | zero => exact absurd HA.out (by simp [plaitinglaw1_Text.l0])
    | succ k1 =>
      have H := HA.out
      clear HA
      simp only [plaitinglaw1_Text.l0] at H
      by_cases c2 : x4_1 < (l0.length : Int)
      · rw [if_pos c2] at H
        have c2b0 : decide (x4_1 < (l0.length : Int)) = true := decide_eq_true c2
        clear c2
        by_cases c3 : x4_1 < 80
        · rw [if_pos c3] at H
          have c3b0 : decide (x4_1 < 80) = true := decide_eq_true c3
          clear c3
          obtain ⟨y1, hy1⟩ : ∃ y_ : List ByteArray, y_ = (([(⟨#[48]⟩ : ByteArray), (⟨#[49]⟩ : ByteArray), (⟨#[48]⟩ : ByteArray), (⟨#[49]⟩ : ByteArray), (⟨#[48]⟩ : ByteArray), (⟨#[49]⟩ : ByteArray), (⟨#[48]⟩ : ByteArray), (⟨#[49]⟩ : ByteArray), (⟨#[35]⟩ : ByteArray), (⟨#[46]⟩ : ByteArray), (⟨#[120]⟩ : ByteArray)] : List ByteArray)) := ⟨_, rfl⟩
          replace H : (if 0 ≤ x4_1 then ((plaitinglaw1_within.f (rd l0 x4_1) 11).bind fun t5 => (if 0 ≤ t5 then (if t5 < (y1.length : Int) then (if x3_1.size + (rdOf ByteArray.empty y1 t5).size ≤ 9223372036854775807 then (plaitinglaw1_Text.l0 k1 l0 (x3_1 ++ (rdOf ByteArray.empty y1 t5)) (wrap64 (x4_1 + 1))) else (none)) else (none)) else (none))) else (none)) = some r := by first | (rw [hy1]; with_reducible exact H) | (have H2_ := (Option.bind_some _ _).symm.trans H; rw [hy1]; with_reducible exact H2_) | (have H2_ := (Option.bind_some _ _).symm.trans H; with_reducible exact H2_) | with_reducible exact H | (rw [hy1]; exact H) | exact H
          have Ny1 := Aside0.mk hy1
          clear hy1
          by_cases c4 : 0 ≤ x4_1
          · rw [if_pos c4] at H
            have c4b0 : decide (0 ≤ x4_1) = true := decide_eq_true c4
            clear c4
            replace H := Option.bind_eq_some_iff.mp H
            obtain ⟨t5, A50, H⟩ := H
            replace H : (if 0 ≤ t5 then (if t5 < (y1.length : Int) then (if x3_1.size + (rdOf ByteArray.empty y1 t5).size ≤ 9223372036854775807 then (plaitinglaw1_Text.l0 k1 l0 (x3_1 ++ (rdOf ByteArray.empty y1 t5)) (wrap64 (x4_1 + 1))) else (none)) else (none)) else (none)) = some r := H
            have A5 := Aside0.mk A50
            clear A50
            by_cases c6 : 0 ≤ t5
            · rw [if_pos c6] at H
              have c6b0 : decide (0 ≤ t5) = true := decide_eq_true c6
              clear c6
              by_cases c7 : t5 < (y1.length : Int)
              · rw [if_pos c7] at H
                have c7b0 : decide (t5 < (y1.length : Int)) = true := decide_eq_true c7
                clear c7
                by_cases c8 : x3_1.size + (rdOf ByteArray.empty y1 t5).size ≤ 9223372036854775807
                · rw [if_pos c8] at H
                  have c8b0 := eq_true c8
                  have c8b1 : decide (x3_1.size + (rdOf ByteArray.empty y1 t5).size ≤ 9223372036854775807) = true := decide_eq_true c8
                  try have c8b2 : (9223372036854775807 < x3_1.size + (rdOf ByteArray.empty y1 t5).size) = False := eq_false (Nat.not_lt.2 c8)
                  have H' := Aside0.mk H
                  clear H
                  go_wp2_with (first | ((with_reducible refine gate_dst (N := 16) rfl ?_); refine Kd.R_lit Kd.string _ 9 ?hg (N := 16) ?hd (xs := ([(⟨#[48]⟩ : ByteArray), (⟨#[49]⟩ : ByteArray), (⟨#[48]⟩ : ByteArray), (⟨#[49]⟩ : ByteArray), (⟨#[48]⟩ : ByteArray), (⟨#[49]⟩ : ByteArray), (⟨#[48]⟩ : ByteArray), (⟨#[49]⟩ : ByteArray), (⟨#[35]⟩ : ByteArray), (⟨#[46]⟩ : ByteArray), (⟨#[120]⟩ : ByteArray)] : List ByteArray)) (inner := [.string (⟨#[48]⟩ : ByteArray), .string (⟨#[49]⟩ : ByteArray), .string (⟨#[48]⟩ : ByteArray), .string (⟨#[49]⟩ : ByteArray), .string (⟨#[48]⟩ : ByteArray), .string (⟨#[49]⟩ : ByteArray), .string (⟨#[48]⟩ : ByteArray), .string (⟨#[49]⟩ : ByteArray), .string (⟨#[35]⟩ : ByteArray), .string (⟨#[46]⟩ : ByteArray), .string (⟨#[120]⟩ : ByteArray)]) (ok := fun _ => True) (okp := fun _ => True) ?hr ?hp (fun _ hk => hk) trivial (Below.refl _ _) (Nat.le_refl _) (by simp) ?_; (case hd => rfl); (case hg => rfl); (case hr => first | (go_simp; done) | (go_simp; rfl)); (case hp => exact (Reps.one (show Kd.M Kd.string _ _ _ (⟨#[48]⟩ : ByteArray) [.string (⟨#[48]⟩ : ByteArray)] from rfl) (Reps.one (show Kd.M Kd.string _ _ _ (⟨#[49]⟩ : ByteArray) [.string (⟨#[49]⟩ : ByteArray)] from rfl) (Reps.one (show Kd.M Kd.string _ _ _ (⟨#[48]⟩ : ByteArray) [.string (⟨#[48]⟩ : ByteArray)] from rfl) (Reps.one (show Kd.M Kd.string _ _ _ (⟨#[49]⟩ : ByteArray) [.string (⟨#[49]⟩ : ByteArray)] from rfl) (Reps.one (show Kd.M Kd.string _ _ _ (⟨#[48]⟩ : ByteArray) [.string (⟨#[48]⟩ : ByteArray)] from rfl) (Reps.one (show Kd.M Kd.string _ _ _ (⟨#[49]⟩ : ByteArray) [.string (⟨#[49]⟩ : ByteArray)] from rfl) (Reps.one (show Kd.M Kd.string _ _ _ (⟨#[48]⟩ : ByteArray) [.string (⟨#[48]⟩ : ByteArray)] from rfl) (Reps.one (show Kd.M Kd.string _ _ _ (⟨#[49]⟩ : ByteArray) [.string (⟨#[49]⟩ : ByteArray)] from rfl) (Reps.one (show Kd.M Kd.string _ _ _ (⟨#[35]⟩ : ByteArray) [.string (⟨#[35]⟩ : ByteArray)] from rfl) (Reps.one (show Kd.M Kd.string _ _ _ (⟨#[46]⟩ : ByteArray) [.string (⟨#[46]⟩ : ByteArray)] from rfl) (Reps.one (show Kd.M Kd.string _ _ _ (⟨#[120]⟩ : ByteArray) [.string (⟨#[120]⟩ : ByteArray)] from rfl) (Reps.none _ _))))))))))))); intro v2 w9 ho10 hb hg_ hnew_; clear hg_ hnew_; (first | rw [← Ny1.out] at ho10 | (simp only [Int.reduceToNat] at ho10; rw [← Ny1.out] at ho10)); have n0_ := Aside0.mk (Kd.R_lower ho10 (below_size (by repeat (first | (with_reducible first | exact HB.out | apply below_alloc | apply pw_below_drewN | apply below_drew1) | exact HB.out)))); have n1_ := Aside0.mk (below_step (by repeat (first | (with_reducible first | exact HB.out | apply below_alloc | apply pw_below_drewN | apply below_drew1) | exact HB.out)) hb); clear HB; have HO3 := n0_; have HB := n1_; clear n0_ n1_; clear hb ho10; have p4 : 0 ≤ (x4_1 : Int) := of_decide_eq_true (by first | (with_reducible assumption) | assumption); have q4 : x4_1 < (l0.length : Int) := of_decide_eq_true (by first | (with_reducible assumption) | assumption); obtain ⟨ad4, e4, hx4_0⟩ := Kd.at_int HR0.out x4_1 p4 q4; cases e4; replace hx4_0 := (HB.out.cell (World.block_lt_of_cell? w _ hx4_0)).trans hx4_0; replace p4 := eq_true p4; replace q4 := eq_true q4) | ((with_reducible refine gate_callee (f := 82) rfl ?_); refine goesL_ (some 21) rfl rfl Try.func82 (by kernel_rfl) rfl #[.int .i64 (rd l0 x4_1), .int .i64 11] rfl (by (try simp only [List.map_toArray, List.map_cons, List.map_nil]); first | done | rfl | (simp only [List.length_drop, List.length_take]; rfl)) ?_; (with_reducible refine (plaitinglaw1_within.calls (rd l0 x4_1) 11 t5 _ A5.out).mono ?_); rintro e w' ⟨rfl, ⟨nd, rfl⟩⟩; refine ⟨_, rfl, ?_⟩; obtain ⟨Ao11, co11, eo11⟩ := Kd.R_slice HO3.out; subst eo11; have p6 : 0 ≤ (t5 : Int) := of_decide_eq_true (by first | (with_reducible assumption) | assumption); have q6 : t5 < (y1.length : Int) := of_decide_eq_true (by first | (with_reducible assumption) | assumption); obtain ⟨ad6, e6, hx6_0⟩ := Kd.at_string (Kd.R_reads' HO3.out).2.2 t5 p6 q6; cases e6; replace p6 := eq_true p6; replace q6 := eq_true q6))
                  go_roundg k1
                  case measure => have := HK1.out; omega
                  case rel => exact ⟨(x3_1 ++ (rdOf ByteArray.empty y1 t5)), (wrap64 (x4_1 + 1)), (by first | rfl | (simp; done) | (simp [*]; done)), (by first | rfl | (simp; done) | (simp [*]; done)), H', ⟨by have := HK1.out; omega⟩, ⟨by repeat (first | (with_reducible first | exact HB.out | apply below_alloc | apply pw_below_drewN | apply below_drew1) | exact HB.out)⟩⟩
                · rw [if_neg c8] at H
                  exact absurd H (by simp)
              · rw [if_neg c7] at H
                exact absurd H (by simp)
            · rw [if_neg c6] at H
              exact absurd H (by simp)
          · rw [if_neg c4] at H
            exact absurd H (by simp)
        · rw [if_neg c3] at H
          have c3b0 : decide (x4_1 < 80) = false := decide_eq_false c3
          clear c3
          obtain rfl := Option.some.inj H
          go_wp2
          go_ret
          exact ⟨by first | rfl | (simp [errW_none, errW_some] <;> rfl) | (simp [*, errW_none, errW_some] <;> rfl), by repeat (first | (with_reducible first | exact HB.out | apply below_alloc | apply pw_below_drewN | apply below_drew1) | exact HB.out)⟩
      · rw [if_neg c2] at H
        have c2b0 : decide (x4_1 < (l0.length : Int)) = false := decide_eq_false c2
        clear c2
        obtain rfl := Option.some.inj H
        go_wp2
        go_ret
        exact ⟨by first | rfl | (simp [errW_none, errW_some] <;> rfl) | (simp [*, errW_none, errW_some] <;> rfl), by repeat (first | (with_reducible first | exact HB.out | apply below_alloc | apply pw_below_drewN | apply below_drew1) | exact HB.out)⟩

end Go.Proofs.Ytkelibikjkgohaa.P

namespace Go.Proofs.Ytkelibikjkgohaa.P
open Go.RowKit Go.Proofs.YtkelibikjkgohaaW.PrintWords Go.Proofs.YtkelibikjkgohaaW.PrintLast Go.Proofs.YtkelibikjkgohaaW.PrintMore
attribute [local go_sem] max2_int min2_int max_two min_two max_three min_three max_four min_four
set_option linter.unusedVariables false
set_option linter.unusedSimpArgs false
/-! ### plaitingref1_symbol: function 83 -/
def plaitingref1_symbol.f (a0 : Int) : Option (Bool) := if a0 = 48 then (some true) else (if a0 = 49 then (some true) else (some (a0 == 35)))
set_option maxHeartbeats 8000000 in
set_option maxRecDepth 100000 in
theorem plaitingref1_symbol.calls (a0 : Int) (r : Bool) (w : World) (h : plaitingref1_symbol.f a0 = some r) :
    Calls Try.prog 83 #[.int .u8 a0] w fun e w' => e = .returned (.bool r) ∧ Drawn0 w w' := by
  have H : (if a0 = 48 then (some true) else (if a0 = 49 then (some true) else (some (a0 == 35)))) = some r := h
  clear h
  by_cases c2 : a0 = 48
  · rw [if_pos c2] at H
    have c2b0 : (a0 == 48) = true := beq_iff_eq.mpr c2
    have c2b1 : (a0 != 48) = false := bne_eq_false_iff_eq.mpr c2
    clear c2
    obtain rfl := Option.some.inj H
    go_enter Try.func83, Try.ntmps83
    go_wp2
    go_ret
    exact ⟨by first | rfl | (simp; done) | (simp [*]; done), by repeat (first | exact Drawn0.refl _ | apply Drawn0.step)⟩
  · rw [if_neg c2] at H
    have c2b0 : (a0 == 48) = false := beq_eq_false_iff_ne.mpr c2
    have c2b1 : (a0 != 48) = true := bne_iff_ne.mpr c2
    by_cases c3 : a0 = 49
    · rw [if_pos c3] at H
      have c3b0 : (a0 == 49) = true := beq_iff_eq.mpr c3
      have c3b1 : (a0 != 49) = false := bne_eq_false_iff_eq.mpr c3
      clear c3
      obtain rfl := Option.some.inj H
      go_enter Try.func83, Try.ntmps83
      go_wp2
      go_ret
      exact ⟨by first | rfl | (simp; done) | (simp [*]; done), by repeat (first | exact Drawn0.refl _ | apply Drawn0.step)⟩
    · rw [if_neg c3] at H
      have c3b0 : (a0 == 49) = false := beq_eq_false_iff_ne.mpr c3
      have c3b1 : (a0 != 49) = true := bne_iff_ne.mpr c3
      obtain rfl := Option.some.inj H
      go_enter Try.func83, Try.ntmps83
      go_wp2
      go_ret
      exact ⟨by first | rfl | (simp; done) | (simp [*]; done), by repeat (first | exact Drawn0.refl _ | apply Drawn0.step)⟩

end Go.Proofs.Ytkelibikjkgohaa.P

namespace Go.Proofs.Ytkelibikjkgohaa.P
open Go.RowKit Go.Proofs.YtkelibikjkgohaaW.PrintWords Go.Proofs.YtkelibikjkgohaaW.PrintLast Go.Proofs.YtkelibikjkgohaaW.PrintMore
attribute [local go_sem] max2_int min2_int max_two min_two max_three min_three max_four min_four
set_option linter.unusedVariables false
set_option linter.unusedSimpArgs false
/-! ### plaitingref1_Clean: function 46 -/
def plaitingref1_Clean.l0 : Nat → ByteArray → Int → Option (ByteArray)
  | 0, _, _ => none
  | k + 1, x0, x3 => if x3 < (x0.size : Int) then (if 0 ≤ x3 then ((plaitingref1_symbol.f (bt x0 x3)).bind fun t1 => (if t1 = true then (if (bt x0 x3) = 35 then (if 0 ≤ (wrap64 (x3 + 1)) then (if (wrap64 (x3 + 1)) ≤ (x0.size : Int) then (some (x0.extract 0 ((wrap64 (x3 + 1)) : Int).toNat)) else (none)) else (none)) else (plaitingref1_Clean.l0 k x0 (wrap64 (x3 + 1)))) else (if x3 ≤ (x0.size : Int) then (some (x0.extract 0 (x3 : Int).toNat)) else (none)))) else (none)) else (some x0)
def plaitingref1_Clean.f (k : Nat) (a0 : ByteArray) : Option (ByteArray) := plaitingref1_Clean.l0 k a0 0
theorem plaitingref1_Clean.mono_l : ∀ k, (∀ y0 y1, LeO (plaitingref1_Clean.l0 k y0 y1) (plaitingref1_Clean.l0 (k + 1) y0 y1))
  | 0 => fun _ _ r h => by simp [plaitingref1_Clean.l0] at h
  | k + 1 => by
    have ih0 := plaitingref1_Clean.mono_l k
    · intro y0 y1
      unfold plaitingref1_Clean.l0
      repeat' first
      | (with_reducible exact ih0 _ _)
      | (with_reducible exact LeO.refl _)
      | (with_reducible exact LeO.none _)
      | (with_reducible refine LeO.ite ?_ ?_)
      | (with_reducible refine LeO.bind ?_ (fun _ => ?_))
      | exact ih0 _ _
      | exact LeO.none _
      | refine LeO.ite ?_ ?_
      | refine LeO.bind ?_ (fun _ => ?_)
theorem plaitingref1_Clean.mono : ∀ a0 k, LeO (plaitingref1_Clean.f k a0) (plaitingref1_Clean.f (k + 1) a0) := by
  intro a0 k
  have ih0 := plaitingref1_Clean.mono_l k
  unfold plaitingref1_Clean.f
  repeat' first
      | (with_reducible exact ih0 _ _)
      | (with_reducible exact LeO.refl _)
      | (with_reducible exact LeO.none _)
      | (with_reducible refine LeO.ite ?_ ?_)
      | (with_reducible refine LeO.bind ?_ (fun _ => ?_))
      | exact ih0 _ _
      | exact LeO.none _
      | refine LeO.ite ?_ ?_
      | refine LeO.bind ?_ (fun _ => ?_)
set_option maxHeartbeats 8000000 in
set_option maxRecDepth 100000 in
theorem plaitingref1_Clean.calls (k : Nat) (a0 : ByteArray) (r : ByteArray) (w : World) (h : plaitingref1_Clean.f k a0 = some r) :
    Calls Try.prog 46 #[.string a0] w fun e w' => e = .returned (.string r) ∧ Drawn0 w w' := by
  have H : (plaitingref1_Clean.l0 k a0 0) = some r := h
  clear h
  have H' := Aside0.mk H
  clear H
  go_enter Try.func46, Try.ntmps46
  go_wp2
  go_loopg [3] k (fun kq v3 w' => ∃ (x3_1 : Int), v3 = .int .i64 x3_1 ∧ Aside0 (plaitingref1_Clean.l0 kq a0 x3_1 = some r) ∧ Aside0 (kq ≤ k) ∧ Drawn0 w w')
  case atStart => exact ⟨(0), (by first | rfl | (simp; done) | (simp [*]; done)), H', ⟨Nat.le_refl _⟩, by repeat (first | exact Drawn0.refl _ | apply Drawn0.step)⟩
  case round =>
    clear H'
    obtain ⟨x3_1, rfl, HA, HK1, ⟨m1, rfl⟩⟩ := hrel
    cases gk with
    | zero => exact absurd HA.out (by simp [plaitingref1_Clean.l0])
    | succ k1 =>
      have H := HA.out
      clear HA
      simp only [plaitingref1_Clean.l0] at H
      by_cases c2 : x3_1 < (a0.size : Int)
      · rw [if_pos c2] at H
        have c2b0 : decide (x3_1 < (a0.size : Int)) = true := decide_eq_true c2
        clear c2
        by_cases c3 : 0 ≤ x3_1
        · rw [if_pos c3] at H
          have c3b0 : decide (0 ≤ x3_1) = true := decide_eq_true c3
          clear c3
          replace H := Option.bind_eq_some_iff.mp H
          obtain ⟨t1, A50, H⟩ := H
          replace H : (if t1 = true then (if (bt a0 x3_1) = 35 then (if 0 ≤ (wrap64 (x3_1 + 1)) then (if (wrap64 (x3_1 + 1)) ≤ (a0.size : Int) then (some (a0.extract 0 ((wrap64 (x3_1 + 1)) : Int).toNat)) else (none)) else (none)) else (plaitingref1_Clean.l0 k1 a0 (wrap64 (x3_1 + 1)))) else (if x3_1 ≤ (a0.size : Int) then (some (a0.extract 0 (x3_1 : Int).toNat)) else (none))) = some r := H
          have A5 := Aside0.mk A50
          clear A50
          by_cases c6 : t1 = true
          · subst c6
            have H1 : (if (bt a0 x3_1) = 35 then (if 0 ≤ (wrap64 (x3_1 + 1)) then (if (wrap64 (x3_1 + 1)) ≤ (a0.size : Int) then (some (a0.extract 0 ((wrap64 (x3_1 + 1)) : Int).toNat)) else (none)) else (none)) else (plaitingref1_Clean.l0 k1 a0 (wrap64 (x3_1 + 1)))) = some r := by rw [if_pos rfl] at H; exact H
            clear H
            have H := H1
            clear H1
            by_cases c8 : (bt a0 x3_1) = 35
            · rw [if_pos c8] at H
              have c8b0 : ((bt a0 x3_1) == 35) = true := beq_iff_eq.mpr c8
              have c8b1 : ((bt a0 x3_1) != 35) = false := bne_eq_false_iff_eq.mpr c8
              clear c8
              obtain ⟨ji9, hji9⟩ : ∃ j_ : Int, (wrap64 (x3_1 + 1)) = j_ := ⟨_, rfl⟩
              replace H : (if 0 ≤ (ji9) then (if (ji9) ≤ (a0.size : Int) then (some (a0.extract 0 ((ji9) : Int).toNat)) else (none)) else (none)) = some r := by first | (rw [hji9] at H; exact H) | (simp only [hji9] at H ⊢; exact H)
              (try rw [hji9] at A5)
              have hji9w : (IntKind.i64.wrap (x3_1 + 1)) = ji9 := (i64_w _).trans hji9
              by_cases c10 : 0 ≤ (ji9)
              · rw [if_pos c10] at H
                have c10b0 := eq_true c10
                have c10b1 : decide (0 ≤ (ji9)) = true := decide_eq_true c10
                clear c10
                by_cases c11 : (ji9) ≤ (a0.size : Int)
                · rw [if_pos c11] at H
                  have c11b0 := eq_true c11
                  have c11b1 : decide ((ji9) ≤ (a0.size : Int)) = true := decide_eq_true c11
                  clear c11
                  obtain rfl := Option.some.inj H
                  have p4 : 0 ≤ (x3_1 : Int) := of_decide_eq_true (by first | (with_reducible assumption) | assumption)
                  have q4 : x3_1 < (a0.size : Int) := of_decide_eq_true (by first | (with_reducible assumption) | assumption)
                  have hx4 := bt_at a0 x3_1
                  replace p4 := eq_true p4
                  replace q4 := eq_true q4
                  go_wp2_with (first | ((with_reducible refine gate_callee (f := 83) rfl ?_); refine goesL_ (some 13) rfl rfl Try.func83 (by kernel_rfl) rfl #[.int .u8 (bt a0 x3_1)] rfl (by (try simp only [List.map_toArray, List.map_cons, List.map_nil]); first | done | rfl | (simp only [List.length_drop, List.length_take]; rfl)) ?_; (with_reducible refine (plaitingref1_symbol.calls (bt a0 x3_1) true _ A5.out).mono ?_); rintro e w' ⟨rfl, ⟨nd, rfl⟩⟩; refine ⟨_, rfl, ?_⟩; have p7 : 0 ≤ (x3_1 : Int) := of_decide_eq_true (by first | (with_reducible assumption) | assumption); have q7 : x3_1 < (a0.size : Int) := of_decide_eq_true (by first | (with_reducible assumption) | assumption); have hx7 := bt_at a0 x3_1; replace p7 := eq_true p7; replace q7 := eq_true q7))
                  go_ret
                  exact ⟨by first | rfl | (simp; done) | (simp only [← hji9] <;> (first | rfl | simp)) | (simp [*]; done), by repeat (first | exact Drawn0.refl _ | apply Drawn0.step)⟩
                · rw [if_neg c11] at H
                  exact absurd H (by simp)
              · rw [if_neg c10] at H
                exact absurd H (by simp)
            · rw [if_neg c8] at H
              have c8b0 : ((bt a0 x3_1) == 35) = false := beq_eq_false_iff_ne.mpr c8
              have c8b1 : ((bt a0 x3_1) != 35) = true := bne_iff_ne.mpr c8
              have H' := Aside0.mk H
              clear H
              have p4 : 0 ≤ (x3_1 : Int) := of_decide_eq_true (by first | (with_reducible assumption) | assumption)
              have q4 : x3_1 < (a0.size : Int) := of_decide_eq_true (by first | (with_reducible assumption) | assumption)
              have hx4 := bt_at a0 x3_1
              replace p4 := eq_true p4
              replace q4 := eq_true q4
              go_wp2_with (first | ((with_reducible refine gate_callee (f := 83) rfl ?_); refine goesL_ (some 13) rfl rfl Try.func83 (by kernel_rfl) rfl #[.int .u8 (bt a0 x3_1)] rfl (by (try simp only [List.map_toArray, List.map_cons, List.map_nil]); first | done | rfl | (simp only [List.length_drop, List.length_take]; rfl)) ?_; (with_reducible refine (plaitingref1_symbol.calls (bt a0 x3_1) true _ A5.out).mono ?_); rintro e w' ⟨rfl, ⟨nd, rfl⟩⟩; refine ⟨_, rfl, ?_⟩; have p7 : 0 ≤ (x3_1 : Int) := of_decide_eq_true (by first | (with_reducible assumption) | assumption); have q7 : x3_1 < (a0.size : Int) := of_decide_eq_true (by first | (with_reducible assumption) | assumption); have hx7 := bt_at a0 x3_1; replace p7 := eq_true p7; replace q7 := eq_true q7))
              go_roundg k1
              case measure => have := HK1.out; omega
              case rel => exact ⟨(wrap64 (x3_1 + 1)), (by first | rfl | (simp; done) | (simp [*]; done)), H', ⟨by have := HK1.out; omega⟩, by repeat (first | exact Drawn0.refl _ | apply Drawn0.step)⟩
          · replace c6 := Bool.eq_false_iff.mpr c6
            subst c6
            have H1 : (if x3_1 ≤ (a0.size : Int) then (some (a0.extract 0 (x3_1 : Int).toNat)) else (none)) = some r := by rw [if_neg (show ¬ (false = true) by decide)] at H; exact H
            clear H
            have H := H1
            clear H1
            have c12b0 := eq_true (of_decide_eq_true (by first | (with_reducible assumption) | assumption) : 0 ≤ x3_1)
            by_cases c13 : x3_1 ≤ (a0.size : Int)
            · rw [if_pos c13] at H
              have c13b0 := eq_true c13
              have c13b1 : decide (x3_1 ≤ (a0.size : Int)) = true := decide_eq_true c13
              clear c13
              obtain rfl := Option.some.inj H
              have p4 : 0 ≤ (x3_1 : Int) := of_decide_eq_true (by first | (with_reducible assumption) | assumption)
              have q4 : x3_1 < (a0.size : Int) := of_decide_eq_true (by first | (with_reducible assumption) | assumption)
              have hx4 := bt_at a0 x3_1
              replace p4 := eq_true p4
              replace q4 := eq_true q4
              go_wp2_with (first | ((with_reducible refine gate_callee (f := 83) rfl ?_); refine goesL_ (some 13) rfl rfl Try.func83 (by kernel_rfl) rfl #[.int .u8 (bt a0 x3_1)] rfl (by (try simp only [List.map_toArray, List.map_cons, List.map_nil]); first | done | rfl | (simp only [List.length_drop, List.length_take]; rfl)) ?_; (with_reducible refine (plaitingref1_symbol.calls (bt a0 x3_1) false _ A5.out).mono ?_); rintro e w' ⟨rfl, ⟨nd, rfl⟩⟩; refine ⟨_, rfl, ?_⟩))
              go_ret
              exact ⟨by first | rfl | (simp; done) | (simp [*]; done), by repeat (first | exact Drawn0.refl _ | apply Drawn0.step)⟩
            · rw [if_neg c13] at H
              exact absurd H (by simp)
        · rw [if_neg c3] at H
          exact absurd H (by simp)
      · rw [if_neg c2] at H
        have c2b0 : decide (x3_1 < (a0.size : Int)) = false := decide_eq_false c2
        clear c2
        obtain rfl := Option.some.inj H
        go_wp2
        go_ret
        exact ⟨by first | rfl | (simp; done) | (simp [*]; done), by repeat (first | exact Drawn0.refl _ | apply Drawn0.step)⟩

end Go.Proofs.Ytkelibikjkgohaa.P

namespace Go.Proofs.Ytkelibikjkgohaa.P
set_option linter.unusedVariables false
open Go.RowKit Go.Proofs.YtkelibikjkgohaaW.PrintWords Go.Proofs.YtkelibikjkgohaaW.PrintLast Go.Proofs.YtkelibikjkgohaaW.PrintMore

def alpha11 : List ByteArray := [(⟨#[48]⟩ : ByteArray), (⟨#[49]⟩ : ByteArray), (⟨#[48]⟩ : ByteArray), (⟨#[49]⟩ : ByteArray), (⟨#[48]⟩ : ByteArray), (⟨#[49]⟩ : ByteArray), (⟨#[48]⟩ : ByteArray), (⟨#[49]⟩ : ByteArray), (⟨#[35]⟩ : ByteArray), (⟨#[46]⟩ : ByteArray), (⟨#[120]⟩ : ByteArray)]

theorem alpha_size (t : Int) (h : 0 ≤ t ∧ t < 11) : (rdOf ByteArray.empty alpha11 t).size = 1 := by
  have : t = 0 ∨ t = 1 ∨ t = 2 ∨ t = 3 ∨ t = 4 ∨ t = 5 ∨ t = 6 ∨ t = 7 ∨ t = 8 ∨ t = 9 ∨ t = 10 := by omega
  rcases this with rfl | rfl | rfl | rfl | rfl | rfl | rfl | rfl | rfl | rfl | rfl <;> rfl

theorem text1_step (k : Nat) (l : List Int) (s : ByteArray) (i : Int) (h0 : 0 ≤ i) (h1 : i < l.length) (h2 : i < 80) (hs : s.size ≤ 1000) :
    plaitinglaw1_Text.l0 (k + 1) l s i = plaitinglaw1_Text.l0 k l (s ++ rdOf ByteArray.empty alpha11 (rd l i % 11)) (i + 1) := by
  have hw : plaitinglaw1_within.f (rd l i) 11 = some (rd l i % 11) := within_eq _ _ ⟨by omega, by omega⟩
  have hm := mod_in (rd l i) 11 (by omega)
  have ha := alpha_size _ hm
  have e : wrap64 (i + 1) = i + 1 := by unfold wrap64; omega
  show (if i < (l.length : Int) then _ else _) = _
  rw [if_pos h1, if_pos h2]
  show (if 0 ≤ i then _ else _) = _
  rw [if_pos h0, hw]
  show (if 0 ≤ rd l i % 11 then _ else _) = _
  rw [if_pos hm.1]
  show (if rd l i % 11 < (11 : Int) then _ else _) = _
  rw [if_pos hm.2]
  show (if s.size + (rdOf ByteArray.empty alpha11 (rd l i % 11)).size ≤ 9223372036854775807 then _ else _) = _
  rw [if_pos (by omega), e]
  rfl

theorem text1_l0 (l : List Int) : ∀ (k : Nat) (s : ByteArray) (i : Nat), 81 ≤ k + i → i ≤ 80 → s.size ≤ i → ∃ t, plaitinglaw1_Text.l0 k l s i = some t ∧ t.size ≤ 80
  | 0, s, i, h1, h2, _ => by omega
  | k + 1, s, i, h1, h2, h3 => by
    by_cases c1 : (i : Int) < l.length
    · by_cases c2 : (i : Int) < 80
      · have hm := mod_in (rd l i) 11 (by omega)
        rw [text1_step k l s i (by omega) c1 c2 (by omega)]
        exact text1_l0 l k _ (i + 1) (by omega) (by omega) (by rw [ByteArray.size_append, alpha_size _ hm]; omega)
      · refine ⟨s, ?_, by omega⟩
        show (if (i : Int) < (l.length : Int) then _ else _) = _
        rw [if_pos c1, if_neg c2]
    · refine ⟨s, ?_, by omega⟩
      show (if (i : Int) < (l.length : Int) then _ else _) = _
      rw [if_neg c1]

theorem text1_f (l : List Int) : ∃ t, plaitinglaw1_Text.f 81 l = some t ∧ t.size ≤ 80 := text1_l0 l 81 ⟨#[]⟩ 0 (by omega) (by omega) (by decide)

theorem text1_calls (l : List Int) : ∃ t : ByteArray, t.size ≤ 80 ∧ ∀ (A : Option Addr) (cp : Nat) (w : World), Kd.C (Kd.int .i64) w A l.length l → l.length ≤ cp → Calls Try.prog 44 #[.slice A l.length cp] w fun e w' => e = .returned (.string t) ∧ Below w.heap.size w w' := by
  obtain ⟨t, h1, h2⟩ := text1_f l
  exact ⟨t, h2, fun A cp w hr hc => plaitinglaw1_Text.calls 81 A cp l t w hr hc h1⟩

theorem bt_is (s : ByteArray) (i : Nat) (h : i < s.size) : bt s i = (s[i].toNat : Int) := (bt_at s i h).symm

theorem rsym (c : UInt8) : plaitingref1_symbol.f (c.toNat : Int) = some (Sp.isBit c || c == 35) := by
  unfold plaitingref1_symbol.f Sp.isBit
  have h48 : ((c.toNat : Int) = 48) ↔ c = 48 := u8_int c 48 (by omega)
  have h49 : ((c.toNat : Int) = 49) ↔ c = 49 := u8_int c 49 (by omega)
  have h35 : ((c.toNat : Int) = 35) ↔ c = 35 := u8_int c 35 (by omega)
  by_cases h1 : c = 48
  · subst h1; rfl
  · rw [if_neg (fun e => h1 (h48.1 e))]
    by_cases h2 : c = 49
    · subst h2; rfl
    · rw [if_neg (fun e => h2 (h49.1 e))]
      by_cases h3 : c = 35
      · subst h3; rfl
      · have : ¬ (c.toNat : Int) = 35 := fun e => h3 (h35.1 e)
        rw [show ((c.toNat : Int) == 35) = false from beq_eq_false_iff_ne.2 this, show (c == 48) = false from beq_eq_false_iff_ne.2 h1, show (c == 49) = false from beq_eq_false_iff_ne.2 h2, show (c == 35) = false from beq_eq_false_iff_ne.2 h3]
        rfl

theorem rclean_l0 (s : ByteArray) (hs : s.size < 4611686018427387904) : ∀ (k i : Nat), s.size < k + i → i ≤ s.size → Sp.clean (Sp.toL s) = (Sp.toL s).take i ++ Sp.clean ((Sp.toL s).drop i) → plaitingref1_Clean.l0 k s i = some (Sp.ofL (Sp.clean (Sp.toL s)))
  | 0, i, h, h', _ => by omega
  | k + 1, i, h, h', hinv => by
    show (if (i : Int) < (s.size : Int) then _ else _) = _
    by_cases c : (i : Int) < (s.size : Int)
    · have ci : i < s.size := by omega
      rw [if_pos c, if_pos (by omega), bt_is s i ci, rsym]
      show (if (Sp.isBit s[i] || s[i] == 35) = true then _ else _) = _
      have hc := clean_at s i ci
      have e : wrap64 ((i : Int) + 1) = i + 1 := by unfold wrap64; omega
      by_cases h35 : s[i] = 35
      · rw [if_pos (by rw [h35]; rfl), if_pos (by rw [h35]; rfl), e, if_pos (by omega), if_pos (by omega)]
        rw [if_pos h35] at hc
        rw [hinv, hc, Sp.extract_ofL]
        have := Sp.take_succ s i ci
        rw [h35] at this
        rw [← this]
        congr 2
      · rw [if_neg h35] at hc
        by_cases hb : Sp.isBit s[i] = true
        · rw [if_pos hb] at hc
          rw [if_pos (by rw [hb]; rfl), if_neg (fun e' => h35 ((u8_int s[i] 35 (by omega)).1 e')), e]
          refine rclean_l0 s hs k (i + 1) (by omega) (by omega) ?_
          rw [hinv, hc, Sp.take_succ s i ci, List.append_assoc]
          rfl
        · rw [if_neg hb] at hc
          rw [if_neg (by simp [hb, h35]), if_pos (by omega), hinv, hc, Sp.extract_ofL]
          simp
    · rw [if_neg c]
      have : i = s.size := by omega
      subst this
      rw [hinv]
      have hl := Sp.toL_length s
      rw [List.take_of_length_le (by omega), List.drop_eq_nil_of_le (by omega)]
      simp [Sp.clean, Sp.ofL_toL]

theorem rclean_f (s : ByteArray) (hs : s.size < 4611686018427387904) : plaitingref1_Clean.f (s.size + 1) s = some (Sp.ofL (Sp.clean (Sp.toL s))) :=
  rclean_l0 s hs (s.size + 1) 0 (by omega) (by omega) (by simp)

theorem rclean_calls (s : ByteArray) (w : World) (hs : s.size < 4611686018427387904) : Calls Try.prog 46 #[.string s] w fun e w' => e = .returned (.string (Sp.ofL (Sp.clean (Sp.toL s)))) ∧ ∃ m, w' = w.drewN m :=
  (plaitingref1_Clean.calls _ s _ w (rclean_f s hs)).mono fun e w' ⟨h1, h2⟩ => ⟨h1, h2.out⟩

theorem clean_size (s : ByteArray) : (Sp.ofL (Sp.clean (Sp.toL s))).size ≤ s.size := by
  rw [sz_ofL]
  have h := (Sp.clean_front (Sp.toL s)).length_le
  rw [Sp.toL_length] at h
  exact h
end Go.Proofs.Ytkelibikjkgohaa.P
