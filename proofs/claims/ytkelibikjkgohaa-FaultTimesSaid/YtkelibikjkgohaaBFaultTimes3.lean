/- Texts for the law FaultTimes, put together by wip/tools/merge.py: LTimes, Open. -/
import Derived.StillTailTactics
import Derived.Test.YtkelibikjkgohaaRows
import Derived.Test.YtkelibikjkgohaaWSized
import Derived.WalkKit
import Derived.ProofKit
import Derived.OpenShut
import Derived.ShutString
import Derived.ChangeOld
import Derived.Below
import Derived.SizedLaws
import Derived.Deep.Fields
import Derived.ChangeSlices
import Derived.ChangeArms
import Derived.Deep.Slices
import Derived.Test.YtkelibikjkgohaaBFaultTimes2
import Derived.Test.YtkelibikjkgohaaBFaultTimes1
namespace Go.Proofs.Ytkelibikjkgohaa.P
set_option linter.unusedVariables false
open Go.RowKit Go.Proofs.YtkelibikjkgohaaW.PrintWords Go.Proofs.YtkelibikjkgohaaW.PrintLast Go.Proofs.YtkelibikjkgohaaW.PrintMore

def timesS (fr tt r : Int) (base : ByteArray) : ByteArray := if tt ≤ r then base else if r < fr then ⟨#[]⟩ else ⟨#[49, 35]⟩

/-- what the locus does in the world W -/
structure TimesHas (d : Sp.Conf) (A1 : Option Addr) (cp1 : Nat) (x fr tt : Int) (gr : Nat) (r : Int) (base : ByteArray) (W : World) : Prop where
  e1 : Calls Try.prog 38 #[.agg #[.int .i64 d.f0, .int .i64 d.f1, .int .i64 d.f2, .int .i64 d.f3, .int .i64 d.f4, .slice A1 d.f5.length cp1], .agg #[.int .i64 1, .int .i64 x, .int .i64 fr, .int .i64 tt, .slice (some ⟨gr, 0, none⟩) 1 1, .slice none 0 0], .int .i64 r, .int .i64 0, .int .i64 x, .int .i64 ((x + 1) % d.f0), .string base] W fun e w' => e = .returned (.string (timesS fr tt r base)) ∧ Below W.heap.size W w'
  e2 : Calls Try.prog 38 #[.agg #[.int .i64 d.f0, .int .i64 d.f1, .int .i64 d.f2, .int .i64 d.f3, .int .i64 d.f4, .slice A1 d.f5.length cp1], .agg #[.int .i64 1, .int .i64 x, .int .i64 fr, .int .i64 tt, .slice (some ⟨gr, 0, none⟩) 1 1, .slice none 0 0], .int .i64 r, .int .i64 0, .int .i64 ((x + 1) % d.f0), .int .i64 ((x + 2) % d.f0), .string base] W fun e w' => e = .returned (.string base) ∧ Below W.heap.size W w'
  r1 : Calls Try.prog 42 #[.agg #[.int .i64 d.f0, .int .i64 d.f1, .int .i64 d.f2, .int .i64 d.f3, .int .i64 d.f4, .slice A1 d.f5.length cp1], .agg #[.int .i64 1, .int .i64 x, .int .i64 fr, .int .i64 tt, .slice (some ⟨gr, 0, none⟩) 1 1, .slice none 0 0], .int .i64 r, .int .i64 x] W fun e w' => e = .returned (.bool (decide (tt ≤ r))) ∧ Below W.heap.size W w'
  r2 : Calls Try.prog 42 #[.agg #[.int .i64 d.f0, .int .i64 d.f1, .int .i64 d.f2, .int .i64 d.f3, .int .i64 d.f4, .slice A1 d.f5.length cp1], .agg #[.int .i64 1, .int .i64 x, .int .i64 fr, .int .i64 tt, .slice (some ⟨gr, 0, none⟩) 1 1, .slice none 0 0], .int .i64 r, .int .i64 ((x + 1) % d.f0)] W fun e w' => e = .returned (.bool true) ∧ Below W.heap.size W w'

theorem next_ne (N x : Int) (hN : 6 ≤ N ∧ N ≤ 12) (hx : 0 ≤ x ∧ x < N) : (x + 1) % N ≠ x := by
  have h : (x + 1) % N = x + 1 ∨ (x + 1) % N = 0 ∧ x + 1 = N := by
    by_cases h : x + 1 = N
    · right; rw [h]; exact ⟨Int.emod_self, rfl⟩
    · left; exact Int.emod_eq_of_lt (by omega) (by omega)
  omega

theorem times_has (d : Sp.Conf) (A1 : Option Addr) (cp1 : Nat) (x fr tt : Int) (gr : Nat) (r : Int) (base : ByteArray) (W : World) (hd : COk d) (hx : 0 ≤ x ∧ x < d.f0) (hr : 0 ≤ r ∧ r < 1000) (hb : base.size < 4611686018427387904) (hc : Kd.C (Kd.int .i64) W A1 d.f5.length d.f5) (hcp : d.f5.length ≤ cp1) (ha : Kd.C k55 W (some ⟨gr, 0, none⟩) 1 [⟨3, 0, ⟨#[49, 35]⟩⟩]) : TimesHas d A1 cp1 x fr tt gr r base W := by
  have hN : 6 ≤ d.f0 ∧ d.f0 ≤ 12 := hd.1
  have hn := next_ne d.f0 x hN hx
  have h1 := mod_in (x + 1) d.f0 (by omega)
  have h2 := mod_in (x + 2) d.f0 (by omega)
  have t1 : ∀ b, hitsB d.f0 1 x x b = true := fun b => by unfold hitsB; simp
  have t2 : ∀ b, hitsB d.f0 1 x ((x + 1) % d.f0) b = false := fun b => by unfold hitsB; simp [hn]
  refine ⟨?_, emit_off d A1 cp1 ⟨1, x, fr, tt, [⟨3, 0, ⟨#[49, 35]⟩⟩], []⟩ (some ⟨gr, 0, none⟩) 1 none 0 r 0 ((x + 1) % d.f0) ((x + 2) % d.f0) base W hd hc hcp (fun h => absurd h (show ¬ (1 : Int) = 2 by decide)) (t2 _), ?_, ?_⟩
  · unfold timesS
    by_cases c1 : tt ≤ r
    · rw [if_pos c1]
      exact emit_past d A1 cp1 ⟨1, x, fr, tt, [⟨3, 0, ⟨#[49, 35]⟩⟩], []⟩ (some ⟨gr, 0, none⟩) 1 none 0 r 0 x ((x + 1) % d.f0) base W hd hc hcp (fun h => absurd h (show ¬ (1 : Int) = 2 by decide)) (t1 _) c1
    · rw [if_neg c1]
      by_cases c2 : r < fr
      · rw [if_pos c2]
        exact emit_early d A1 cp1 ⟨1, x, fr, tt, [⟨3, 0, ⟨#[49, 35]⟩⟩], []⟩ (some ⟨gr, 0, none⟩) 1 none 0 r 0 x ((x + 1) % d.f0) base W hd hc hcp (fun h => absurd h (show ¬ (1 : Int) = 2 by decide)) (t1 _) c1 c2
      · rw [if_neg c2]
        exact emit_act d A1 cp1 ⟨1, x, fr, tt, [⟨3, 0, ⟨#[49, 35]⟩⟩], []⟩ (some ⟨gr, 0, none⟩) 1 none 0 r 0 x ((x + 1) % d.f0) base W hd hc hcp (fun h => absurd h (show ¬ (1 : Int) = 2 by decide)) (t1 _) c1 c2 (by omega) ha ⟨(show 0 < 1 by decide), (show 1 ≤ 1000000 by decide)⟩ 0 (by unfold emitK; show (17 * r + 5 * 0 + (x + 1) % d.f0) % 1 = 0; omega) ⟨#[49, 35]⟩ (fun V hV => done_3 _ _ _ _ _ _ _ _ _ _ _ _ _ _ _ V (show (3 : Int) % 7 = 3 by decide) (by kernel_rfl))
  · have h := right_any d.f0 d.f1 d.f2 d.f3 d.f4 A1 d.f5.length cp1 1 x fr tt (some ⟨gr, 0, none⟩) 1 1 none 0 0 r x W
    rw [show rightB 1 x tt r x = decide (tt ≤ r) from by unfold rightB; simp] at h
    exact h
  · have h := right_any d.f0 d.f1 d.f2 d.f3 d.f4 A1 d.f5.length cp1 1 x fr tt (some ⟨gr, 0, none⟩) 1 1 none 0 0 r ((x + 1) % d.f0) W
    rw [show rightB 1 x tt r ((x + 1) % d.f0) = true from by unfold rightB; simp [hn]] at h
    exact h

theorem one_act (w : World) (g : Nat) (hg : w.heap[g]? = some (.cells #[.int .i64 3, .int .i64 0, .string ⟨#[49, 35]⟩] 55 (0, 0))) : Kd.C k55 w (some ⟨g, 0, none⟩) 1 [⟨3, 0, ⟨#[49, 35]⟩⟩] := by
  refine ⟨rfl, by decide, fun _ => ⟨_, rfl, fun j p hp => ?_⟩⟩
  have hj : j = 0 := by
    rcases j with _ | j
    · rfl
    · simp at hp
  subst hj
  simp only [List.getElem?_cons_zero, Option.some.injEq] at hp
  subst hp
  refine ⟨_, rfl, k55_mk _ _, fun i u hu => ?_⟩
  rcases i with _ | _ | _ | i
  all_goals simp only [List.getElem?_cons_zero, List.getElem?_cons_succ, Option.some.injEq, List.getElem?_nil, reduceCtorEq] at hu
  all_goals subst hu
  · exact (blk_cell hg 0).trans rfl
  · exact (blk_cell hg 1).trans rfl
  · exact (blk_cell hg 2).trans rfl

theorem times_world (d : Sp.Conf) (A1 : Option Addr) (cp1 : Nat) (x fr : Int) (w2 : World) (q : Nat) : (((((w2.alloc (Obj.cells #[.int .i64 d.f0, .int .i64 d.f1, .int .i64 d.f2, .int .i64 d.f3, .int .i64 d.f4, .slice A1 d.f5.length cp1] 24)).drewN q).alloc (Obj.cells #[.int .i64 3, .int .i64 0, .string ⟨#[49, 35]⟩] 55)).alloc (Obj.cells #[.int .i64 1, .int .i64 x, .int .i64 fr, .int .i64 0, .slice (some ⟨w2.heap.size + 1, 0, none⟩) 1 1, .slice none 0 0] 48)).cell? ⟨w2.heap.size, 0, none⟩ = some (.int .i64 d.f0) ∧ ((((w2.alloc (Obj.cells #[.int .i64 d.f0, .int .i64 d.f1, .int .i64 d.f2, .int .i64 d.f3, .int .i64 d.f4, .slice A1 d.f5.length cp1] 24)).drewN q).alloc (Obj.cells #[.int .i64 3, .int .i64 0, .string ⟨#[49, 35]⟩] 55)).alloc (Obj.cells #[.int .i64 1, .int .i64 x, .int .i64 fr, .int .i64 0, .slice (some ⟨w2.heap.size + 1, 0, none⟩) 1 1, .slice none 0 0] 48)).cell? ⟨w2.heap.size, 1, none⟩ = some (.int .i64 d.f1) ∧ ((((w2.alloc (Obj.cells #[.int .i64 d.f0, .int .i64 d.f1, .int .i64 d.f2, .int .i64 d.f3, .int .i64 d.f4, .slice A1 d.f5.length cp1] 24)).drewN q).alloc (Obj.cells #[.int .i64 3, .int .i64 0, .string ⟨#[49, 35]⟩] 55)).alloc (Obj.cells #[.int .i64 1, .int .i64 x, .int .i64 fr, .int .i64 0, .slice (some ⟨w2.heap.size + 1, 0, none⟩) 1 1, .slice none 0 0] 48)).cell? ⟨w2.heap.size, 2, none⟩ = some (.int .i64 d.f2) ∧ ((((w2.alloc (Obj.cells #[.int .i64 d.f0, .int .i64 d.f1, .int .i64 d.f2, .int .i64 d.f3, .int .i64 d.f4, .slice A1 d.f5.length cp1] 24)).drewN q).alloc (Obj.cells #[.int .i64 3, .int .i64 0, .string ⟨#[49, 35]⟩] 55)).alloc (Obj.cells #[.int .i64 1, .int .i64 x, .int .i64 fr, .int .i64 0, .slice (some ⟨w2.heap.size + 1, 0, none⟩) 1 1, .slice none 0 0] 48)).cell? ⟨w2.heap.size, 3, none⟩ = some (.int .i64 d.f3) ∧ ((((w2.alloc (Obj.cells #[.int .i64 d.f0, .int .i64 d.f1, .int .i64 d.f2, .int .i64 d.f3, .int .i64 d.f4, .slice A1 d.f5.length cp1] 24)).drewN q).alloc (Obj.cells #[.int .i64 3, .int .i64 0, .string ⟨#[49, 35]⟩] 55)).alloc (Obj.cells #[.int .i64 1, .int .i64 x, .int .i64 fr, .int .i64 0, .slice (some ⟨w2.heap.size + 1, 0, none⟩) 1 1, .slice none 0 0] 48)).cell? ⟨w2.heap.size, 4, none⟩ = some (.int .i64 d.f4) ∧ ((((w2.alloc (Obj.cells #[.int .i64 d.f0, .int .i64 d.f1, .int .i64 d.f2, .int .i64 d.f3, .int .i64 d.f4, .slice A1 d.f5.length cp1] 24)).drewN q).alloc (Obj.cells #[.int .i64 3, .int .i64 0, .string ⟨#[49, 35]⟩] 55)).alloc (Obj.cells #[.int .i64 1, .int .i64 x, .int .i64 fr, .int .i64 0, .slice (some ⟨w2.heap.size + 1, 0, none⟩) 1 1, .slice none 0 0] 48)).cell? ⟨w2.heap.size, 5, none⟩ = some (.slice A1 d.f5.length cp1) ∧ ((((w2.alloc (Obj.cells #[.int .i64 d.f0, .int .i64 d.f1, .int .i64 d.f2, .int .i64 d.f3, .int .i64 d.f4, .slice A1 d.f5.length cp1] 24)).drewN q).alloc (Obj.cells #[.int .i64 3, .int .i64 0, .string ⟨#[49, 35]⟩] 55)).alloc (Obj.cells #[.int .i64 1, .int .i64 x, .int .i64 fr, .int .i64 0, .slice (some ⟨w2.heap.size + 1, 0, none⟩) 1 1, .slice none 0 0] 48)).cell? ⟨w2.heap.size + 1 + 1, 0, none⟩ = some (.int .i64 1) ∧ ((((w2.alloc (Obj.cells #[.int .i64 d.f0, .int .i64 d.f1, .int .i64 d.f2, .int .i64 d.f3, .int .i64 d.f4, .slice A1 d.f5.length cp1] 24)).drewN q).alloc (Obj.cells #[.int .i64 3, .int .i64 0, .string ⟨#[49, 35]⟩] 55)).alloc (Obj.cells #[.int .i64 1, .int .i64 x, .int .i64 fr, .int .i64 0, .slice (some ⟨w2.heap.size + 1, 0, none⟩) 1 1, .slice none 0 0] 48)).cell? ⟨w2.heap.size + 1 + 1, 1, none⟩ = some (.int .i64 x) ∧ ((((w2.alloc (Obj.cells #[.int .i64 d.f0, .int .i64 d.f1, .int .i64 d.f2, .int .i64 d.f3, .int .i64 d.f4, .slice A1 d.f5.length cp1] 24)).drewN q).alloc (Obj.cells #[.int .i64 3, .int .i64 0, .string ⟨#[49, 35]⟩] 55)).alloc (Obj.cells #[.int .i64 1, .int .i64 x, .int .i64 fr, .int .i64 0, .slice (some ⟨w2.heap.size + 1, 0, none⟩) 1 1, .slice none 0 0] 48)).cell? ⟨w2.heap.size + 1 + 1, 2, none⟩ = some (.int .i64 fr) ∧ ((((w2.alloc (Obj.cells #[.int .i64 d.f0, .int .i64 d.f1, .int .i64 d.f2, .int .i64 d.f3, .int .i64 d.f4, .slice A1 d.f5.length cp1] 24)).drewN q).alloc (Obj.cells #[.int .i64 3, .int .i64 0, .string ⟨#[49, 35]⟩] 55)).alloc (Obj.cells #[.int .i64 1, .int .i64 x, .int .i64 fr, .int .i64 0, .slice (some ⟨w2.heap.size + 1, 0, none⟩) 1 1, .slice none 0 0] 48)).cell? ⟨w2.heap.size + 1 + 1, 3, none⟩ = some (.int .i64 0) ∧ ((((w2.alloc (Obj.cells #[.int .i64 d.f0, .int .i64 d.f1, .int .i64 d.f2, .int .i64 d.f3, .int .i64 d.f4, .slice A1 d.f5.length cp1] 24)).drewN q).alloc (Obj.cells #[.int .i64 3, .int .i64 0, .string ⟨#[49, 35]⟩] 55)).alloc (Obj.cells #[.int .i64 1, .int .i64 x, .int .i64 fr, .int .i64 0, .slice (some ⟨w2.heap.size + 1, 0, none⟩) 1 1, .slice none 0 0] 48)).cell? ⟨w2.heap.size + 1 + 1, 4, none⟩ = some (.slice (some ⟨w2.heap.size + 1, 0, none⟩) 1 1) ∧ ((((w2.alloc (Obj.cells #[.int .i64 d.f0, .int .i64 d.f1, .int .i64 d.f2, .int .i64 d.f3, .int .i64 d.f4, .slice A1 d.f5.length cp1] 24)).drewN q).alloc (Obj.cells #[.int .i64 3, .int .i64 0, .string ⟨#[49, 35]⟩] 55)).alloc (Obj.cells #[.int .i64 1, .int .i64 x, .int .i64 fr, .int .i64 0, .slice (some ⟨w2.heap.size + 1, 0, none⟩) 1 1, .slice none 0 0] 48)).cell? ⟨w2.heap.size + 1 + 1, 5, none⟩ = some (.slice none 0 0)) ∧ (((((w2.alloc (Obj.cells #[.int .i64 d.f0, .int .i64 d.f1, .int .i64 d.f2, .int .i64 d.f3, .int .i64 d.f4, .slice A1 d.f5.length cp1] 24)).drewN q).alloc (Obj.cells #[.int .i64 3, .int .i64 0, .string ⟨#[49, 35]⟩] 55)).alloc (Obj.cells #[.int .i64 1, .int .i64 x, .int .i64 fr, .int .i64 0, .slice (some ⟨w2.heap.size + 1, 0, none⟩) 1 1, .slice none 0 0] 48))).frozen? ⟨w2.heap.size + 1 + 1, 3, none⟩ = false ∧ ∃ U : World, Kd.C k55 U (some ⟨w2.heap.size + 1, 0, none⟩) 1 [⟨3, 0, ⟨#[49, 35]⟩⟩] ∧ Below U.heap.size U ((((w2.alloc (Obj.cells #[.int .i64 d.f0, .int .i64 d.f1, .int .i64 d.f2, .int .i64 d.f3, .int .i64 d.f4, .slice A1 d.f5.length cp1] 24)).drewN q).alloc (Obj.cells #[.int .i64 3, .int .i64 0, .string ⟨#[49, 35]⟩] 55)).alloc (Obj.cells #[.int .i64 1, .int .i64 x, .int .i64 fr, .int .i64 0, .slice (some ⟨w2.heap.size + 1, 0, none⟩) 1 1, .slice none 0 0] 48)) ∧ U.heap.size = w2.heap.size + 1 + 1 ∧ Below w2.heap.size w2 U := by
  refine ⟨?_, ?_, (((w2.alloc (Obj.cells #[.int .i64 d.f0, .int .i64 d.f1, .int .i64 d.f2, .int .i64 d.f3, .int .i64 d.f4, .slice A1 d.f5.length cp1] 24)).drewN q).alloc (Obj.cells #[.int .i64 3, .int .i64 0, .string ⟨#[49, 35]⟩] 55)), one_act _ _ ?_, below_alloc (Below.refl _ _) _, by simp, ?_⟩
  · refine ⟨?_, ?_, ?_, ?_, ?_, ?_, ?_, ?_, ?_, ?_, ?_, ?_⟩ <;> go_simp
  · go_simp
  · have h := blk_new ((w2.alloc (Obj.cells #[.int .i64 d.f0, .int .i64 d.f1, .int .i64 d.f2, .int .i64 d.f3, .int .i64 d.f4, .slice A1 d.f5.length cp1] 24)).drewN q) (Obj.cells #[.int .i64 3, .int .i64 0, .string ⟨#[49, 35]⟩] 55)
    have e : ((w2.alloc (Obj.cells #[.int .i64 d.f0, .int .i64 d.f1, .int .i64 d.f2, .int .i64 d.f3, .int .i64 d.f4, .slice A1 d.f5.length cp1] 24)).drewN q).heap.size = w2.heap.size + 1 := by simp
    rw [e] at h
    exact h
  · repeat (first | exact Below.refl _ _ | apply below_alloc | apply pw_below_drewN)

theorem times_store (d : Sp.Conf) (A1 : Option Addr) (cp1 : Nat) (x fr tt : Int) (w2 V : World) (q : Nat) (h : V.cell? ⟨w2.heap.size, 0, none⟩ = some (.int .i64 d.f0) ∧ V.cell? ⟨w2.heap.size, 1, none⟩ = some (.int .i64 d.f1) ∧ V.cell? ⟨w2.heap.size, 2, none⟩ = some (.int .i64 d.f2) ∧ V.cell? ⟨w2.heap.size, 3, none⟩ = some (.int .i64 d.f3) ∧ V.cell? ⟨w2.heap.size, 4, none⟩ = some (.int .i64 d.f4) ∧ V.cell? ⟨w2.heap.size, 5, none⟩ = some (.slice A1 d.f5.length cp1) ∧ V.cell? ⟨w2.heap.size + 1 + 1, 0, none⟩ = some (.int .i64 1) ∧ V.cell? ⟨w2.heap.size + 1 + 1, 1, none⟩ = some (.int .i64 x) ∧ V.cell? ⟨w2.heap.size + 1 + 1, 2, none⟩ = some (.int .i64 fr) ∧ V.cell? ⟨w2.heap.size + 1 + 1, 3, none⟩ = some (.int .i64 0) ∧ V.cell? ⟨w2.heap.size + 1 + 1, 4, none⟩ = some (.slice (some ⟨w2.heap.size + 1, 0, none⟩) 1 1) ∧ V.cell? ⟨w2.heap.size + 1 + 1, 5, none⟩ = some (.slice none 0 0)) : ((V.drewN q).setCell ⟨w2.heap.size + 1 + 1, 3, none⟩ (.int .i64 tt)).cell? ⟨w2.heap.size, 0, none⟩ = some (.int .i64 d.f0) ∧ ((V.drewN q).setCell ⟨w2.heap.size + 1 + 1, 3, none⟩ (.int .i64 tt)).cell? ⟨w2.heap.size, 1, none⟩ = some (.int .i64 d.f1) ∧ ((V.drewN q).setCell ⟨w2.heap.size + 1 + 1, 3, none⟩ (.int .i64 tt)).cell? ⟨w2.heap.size, 2, none⟩ = some (.int .i64 d.f2) ∧ ((V.drewN q).setCell ⟨w2.heap.size + 1 + 1, 3, none⟩ (.int .i64 tt)).cell? ⟨w2.heap.size, 3, none⟩ = some (.int .i64 d.f3) ∧ ((V.drewN q).setCell ⟨w2.heap.size + 1 + 1, 3, none⟩ (.int .i64 tt)).cell? ⟨w2.heap.size, 4, none⟩ = some (.int .i64 d.f4) ∧ ((V.drewN q).setCell ⟨w2.heap.size + 1 + 1, 3, none⟩ (.int .i64 tt)).cell? ⟨w2.heap.size, 5, none⟩ = some (.slice A1 d.f5.length cp1) ∧ ((V.drewN q).setCell ⟨w2.heap.size + 1 + 1, 3, none⟩ (.int .i64 tt)).cell? ⟨w2.heap.size + 1 + 1, 0, none⟩ = some (.int .i64 1) ∧ ((V.drewN q).setCell ⟨w2.heap.size + 1 + 1, 3, none⟩ (.int .i64 tt)).cell? ⟨w2.heap.size + 1 + 1, 1, none⟩ = some (.int .i64 x) ∧ ((V.drewN q).setCell ⟨w2.heap.size + 1 + 1, 3, none⟩ (.int .i64 tt)).cell? ⟨w2.heap.size + 1 + 1, 2, none⟩ = some (.int .i64 fr) ∧ ((V.drewN q).setCell ⟨w2.heap.size + 1 + 1, 3, none⟩ (.int .i64 tt)).cell? ⟨w2.heap.size + 1 + 1, 3, none⟩ = some (.int .i64 tt) ∧ ((V.drewN q).setCell ⟨w2.heap.size + 1 + 1, 3, none⟩ (.int .i64 tt)).cell? ⟨w2.heap.size + 1 + 1, 4, none⟩ = some (.slice (some ⟨w2.heap.size + 1, 0, none⟩) 1 1) ∧ ((V.drewN q).setCell ⟨w2.heap.size + 1 + 1, 3, none⟩ (.int .i64 tt)).cell? ⟨w2.heap.size + 1 + 1, 5, none⟩ = some (.slice none 0 0) := by
  obtain ⟨z0, z1, z2, z3, z4, z5, z6, z7, z8, z9, z10, z11⟩ := h
  refine ⟨?_, ?_, ?_, ?_, ?_, ?_, ?_, ?_, ?_, ?_, ?_, ?_⟩ <;> go_simp

set_option maxRecDepth 100000 in
set_option maxHeartbeats 4000000 in
theorem times_calls (y0 y1 y2 y3 y4 : Int) (ly : List Int) (A : Option Addr) (cp : Nat) (at_ from_ span round : Int) (ln : List Int) (An : Option Addr) (cpn : Nat) (w : World) (hr : Kd.C (Kd.int .i64) w A ly.length ly) (hcp : ly.length ≤ cp) (hrn : Kd.C (Kd.int .i64) w An ln.length ln) (hcpn : ln.length ≤ cpn) (_y : ln.length * 8 ≤ 140737488351232) :
    Calls Try.prog 11 #[.agg #[.int .i64 y0, .int .i64 y1, .int .i64 y2, .int .i64 y3, .int .i64 y4, .slice A ly.length cp], .int .i64 at_, .int .i64 from_, .int .i64 span, .int .i64 round, .slice An ln.length cpn] w fun e w' => e = .returned (.bool true) ∧ Below w.heap.size w w' := by
  obtain ⟨d, hd, hM⟩ := make3_calls y0 y1 y2 y3 y4 ly
  obtain ⟨tx, htx, hT⟩ := text1_calls ln
  have HM := Lib.hid hM
  have HT := Lib.hid hT
  have HR := Lib.hid hr
  have HRN := Lib.hid hrn
  have hN : 6 ≤ d.f0 ∧ d.f0 ≤ 12 := hd.1
  obtain ⟨n0, n1⟩ := hN
  have hx := mod_in at_ d.f0 (by omega)
  have hfr := mod_in from_ 500 (by omega)
  have hsp := mod_in span 500 (by omega)
  have hrr := mod_in round 1000 (by omega)
  have hsz : ((⟨#[48]⟩ : ByteArray) ++ tx).size = 1 + tx.size := by rw [ByteArray.size_append]; rfl
  have hbz := clean_size ((⟨#[48]⟩ : ByteArray) ++ tx)
  have HC1 := Lib.hid (fun W => rclean_calls ((⟨#[48]⟩ : ByteArray) ++ tx) W (by omega))
  obtain ⟨base, hbase⟩ : ∃ b, b = Sp.ofL (Sp.clean (Sp.toL ((⟨#[48]⟩ : ByteArray) ++ tx))) := ⟨_, rfl⟩
  rw [← hbase] at HC1 hbz
  obtain ⟨x, hax⟩ : ∃ x, x = at_ % d.f0 := ⟨_, rfl⟩
  obtain ⟨fr, haf⟩ : ∃ x, x = from_ % 500 := ⟨_, rfl⟩
  obtain ⟨sp, has⟩ : ∃ x, x = span % 500 := ⟨_, rfl⟩
  obtain ⟨r, har⟩ : ∃ x, x = round % 1000 := ⟨_, rfl⟩
  rw [← hax] at hx
  rw [← haf] at hfr
  rw [← has] at hsp
  rw [← har] at hrr
  have HX := Lib.hid hax
  have HF := Lib.hid haf
  have HS := Lib.hid has
  have HRR := Lib.hid har
  have HH : Hid (∀ (A1 : Option Addr) (cp1 gr : Nat) (W : World), Kd.C (Kd.int .i64) W A1 d.f5.length d.f5 → d.f5.length ≤ cp1 → Kd.C k55 W (some ⟨gr, 0, none⟩) 1 [⟨3, 0, ⟨#[49, 35]⟩⟩] → TimesHas d A1 cp1 x fr (fr + sp) gr r base W) := Lib.hid (fun A1 cp1 gr W h1 h2 h3 => times_has d A1 cp1 x fr (fr + sp) gr r base W hd hx hrr (by omega) h1 h2 h3)
  have hsm : tx.size + 1 ≤ 100 := by omega
  clear hM hT hr hrn hd hbase hax haf has har hsz hbz
  go_enter Try.func11, Try.ntmps11
  go_wp2_with (first | (go_at_call 29; (with_reducible refine (known6_calls _).mono ?_); rintro e w1 ⟨rfl, hb⟩; have z0 := (hb.cell (p := ⟨w.heap.size, 0, none⟩) (by simp)).trans (show _ = some (.int .i64 y0) by go_simp); have z1 := (hb.cell (p := ⟨w.heap.size, 1, none⟩) (by simp)).trans (show _ = some (.int .i64 y1) by go_simp); have z2 := (hb.cell (p := ⟨w.heap.size, 2, none⟩) (by simp)).trans (show _ = some (.int .i64 y2) by go_simp); have z3 := (hb.cell (p := ⟨w.heap.size, 3, none⟩) (by simp)).trans (show _ = some (.int .i64 y3) by go_simp); have z4 := (hb.cell (p := ⟨w.heap.size, 4, none⟩) (by simp)).trans (show _ = some (.int .i64 y4) by go_simp); have z5 := (hb.cell (p := ⟨w.heap.size, 5, none⟩) (by simp)).trans (show _ = some (.slice A ly.length cp) by go_simp); have B1 := Lib.hid (below_step (below_alloc (Below.refl _ _) _) hb); clear hb) | (go_at_call 22; refine (HM.out A cp _ (Kd.C_below HR.out B1.out) hcp).mono ?_; rintro e w2 ⟨A1, cp1, rfl, hcp1, hC, hb⟩; have HC := Lib.hid hC; have B2 := Lib.hid (below_step B1.out hb); clear hb hC z0 z1 z2 z3 z4 z5) | (go_at_call 34; (with_reducible refine (within6_calls at_ d.f0 _ ⟨by omega, by omega⟩).mono ?_); rintro e w3 ⟨rfl, q3, rfl⟩) | (go_at_call 34; (with_reducible refine (within6_calls from_ 500 _ ⟨by omega, by omega⟩).mono ?_); rintro e w3 ⟨rfl, q4, rfl⟩))
  rw [show at_ % d.f0 = x from HX.out.symm, show from_ % 500 = fr from HF.out.symm]
  have hV := times_world d A1 cp1 x fr w2 (q3 + q4)
  generalize ((((w2.alloc (Obj.cells #[.int .i64 d.f0, .int .i64 d.f1, .int .i64 d.f2, .int .i64 d.f3, .int .i64 d.f4, .slice A1 d.f5.length cp1] 24)).drewN (q3 + q4)).alloc (Obj.cells #[.int .i64 3, .int .i64 0, .string ⟨#[49, 35]⟩] 55)).alloc (Obj.cells #[.int .i64 1, .int .i64 x, .int .i64 fr, .int .i64 0, .slice (some ⟨w2.heap.size + 1, 0, none⟩) 1 1, .slice none 0 0] 48)) = V at *
  obtain ⟨⟨z0, z1, z2, z3, z4, z5, z6, z7, z8, z9, z10, z11⟩, hZ, U, hKA, hUV, hU, hbU⟩ := hV
  have B3 := Lib.hid (below_step B2.out hbU)
  have BU := Lib.hid hUV
  have KC := Lib.hid (Kd.C_below HC.out hbU)
  have KA := Lib.hid hKA
  have hfz : V.frozen? ⟨w2.heap.size + 1 + 1, 3, none⟩ = false := hZ
  clear hKA hUV hbU
  go_region_with ((go_at_call 34; refine (within6_calls span 500 _ ⟨by omega, by omega⟩).mono ?_; rintro e w3 ⟨rfl, q5, rfl⟩; rw [show span % 500 = sp from HS.out.symm]))
  all_goals
    rw [show IntKind.i64.wrap (fr + sp) = fr + sp from by rw [IntKind.wrap_i64]; omega]
    have hV2 := times_store d A1 cp1 x fr (fr + sp) w2 V (1 + q5) ⟨z0, z1, z2, z3, z4, z5, z6, z7, z8, z9, z10, z11⟩
    have hb2 : Below U.heap.size U ((V.drewN (1 + q5)).setCell ⟨w2.heap.size + 1 + 1, 3, none⟩ (.int .i64 (fr + sp))) := (pw_below_drewN BU.out (1 + q5)).setCell (by rw [hU]; exact Nat.le_refl _) _
    generalize (V.drewN (1 + q5)).setCell ⟨w2.heap.size + 1 + 1, 3, none⟩ (.int .i64 (fr + sp)) = V2 at *
    clear z0 z1 z2 z3 z4 z5 z6 z7 z8 z9 z10 z11
    obtain ⟨z0, z1, z2, z3, z4, z5, z6, z7, z8, z9, z10, z11⟩ := hV2
    have B4 := Lib.hid (below_step B3.out hb2)
    have HB : Hid (∀ W, Below V2.heap.size V2 W → TimesHas d A1 cp1 x fr (fr + sp) (w2.heap.size + 1) r base W) := Lib.hid (fun W hW => HH.out A1 cp1 _ W (Kd.C_below (Kd.C_below KC.out hb2) hW) hcp1 (Kd.C_below (Kd.C_below KA.out hb2) hW))
    clear hb2
    have BV := Lib.hid (Below.refl V2.heap.size V2)
    go_wp2_with (first | (go_at_call 34; (with_reducible refine (within6_calls round 1000 _ ⟨by omega, by omega⟩).mono ?_); rintro e w3 ⟨rfl, q6, rfl⟩; rw [show round % 1000 = r from HRR.out.symm]) | (go_at_call 44; refine (HT.out An cpn _ (Kd.C_below HRN.out ?hb) hcpn).mono ?_; (case hb => exact pw_below_drewN B4.out _); rintro e w6 ⟨rfl, hb⟩; replace BV := Lib.hid (below_step (by repeat (first | exact BV.out | apply pw_below_drewN)) hb); replace z0 := pw_cell_below hb z0; replace z1 := pw_cell_below hb z1; replace z2 := pw_cell_below hb z2; replace z3 := pw_cell_below hb z3; replace z4 := pw_cell_below hb z4; replace z5 := pw_cell_below hb z5; replace z6 := pw_cell_below hb z6; replace z7 := pw_cell_below hb z7; replace z8 := pw_cell_below hb z8; replace z9 := pw_cell_below hb z9; replace z10 := pw_cell_below hb z10; replace z11 := pw_cell_below hb z11; clear hb) | (go_at_call 46; (with_reducible refine (HC1.out _).mono ?_); rintro e w7 ⟨rfl, q7, rfl⟩))
    have u1 : IntKind.i64.wrap (x + 1) = x + 1 := by rw [IntKind.wrap_i64]; omega
    have u2 : IntKind.i64.wrap (x + 2) = x + 2 := by rw [IntKind.wrap_i64]; omega
    have u3 : (x + 1).tmod d.f0 = (x + 1) % d.f0 := Int.tmod_eq_emod_of_nonneg (by omega)
    have u4 : (x + 2).tmod d.f0 = (x + 2) % d.f0 := Int.tmod_eq_emod_of_nonneg (by omega)
    have u5 : ¬ d.f0 = 0 := by omega
    have u6 : (d.f0 == 0) = false := beq_eq_false_iff_ne.2 u5
    have hcs : (timesS fr (fr + sp) r base = base ∧ decide (fr + sp ≤ r) = true) ∨ (∃ sv, sv = ⟨#[]⟩ ∧ timesS fr (fr + sp) r base = sv ∧ decide (fr + sp ≤ r) = false ∧ decide (r < fr) = true) ∨ (∃ sv, sv = ⟨#[49, 35]⟩ ∧ timesS fr (fr + sp) r base = sv ∧ decide (fr + sp ≤ r) = false ∧ decide (r < fr) = false) := by
      unfold timesS
      by_cases c1 : fr + sp ≤ r
      · left; exact ⟨by rw [if_pos c1], decide_eq_true c1⟩
      · right
        by_cases c2 : r < fr
        · left; exact ⟨_, rfl, by rw [if_neg c1, if_pos c2], decide_eq_false c1, decide_eq_true c2⟩
        · right; exact ⟨_, rfl, by rw [if_neg c1, if_neg c2], decide_eq_false c1, decide_eq_false c2⟩
    rcases hcs with ⟨hS, k1⟩ | ⟨sv, hsv, hS, k1, k2⟩ | ⟨sv, hsv, hS, k1, k2⟩
    · skip
      go_region_held3 (fun w' => w'.cell? ⟨w2.heap.size, 0, none⟩ = some (.int .i64 d.f0) ∧ w'.cell? ⟨w2.heap.size, 1, none⟩ = some (.int .i64 d.f1) ∧ w'.cell? ⟨w2.heap.size, 2, none⟩ = some (.int .i64 d.f2) ∧ w'.cell? ⟨w2.heap.size, 3, none⟩ = some (.int .i64 d.f3) ∧ w'.cell? ⟨w2.heap.size, 4, none⟩ = some (.int .i64 d.f4) ∧ w'.cell? ⟨w2.heap.size, 5, none⟩ = some (.slice A1 d.f5.length cp1) ∧ w'.cell? ⟨w2.heap.size + 1 + 1, 0, none⟩ = some (.int .i64 1) ∧ w'.cell? ⟨w2.heap.size + 1 + 1, 1, none⟩ = some (.int .i64 x) ∧ w'.cell? ⟨w2.heap.size + 1 + 1, 2, none⟩ = some (.int .i64 fr) ∧ w'.cell? ⟨w2.heap.size + 1 + 1, 3, none⟩ = some (.int .i64 (fr + sp)) ∧ w'.cell? ⟨w2.heap.size + 1 + 1, 4, none⟩ = some (.slice (some ⟨w2.heap.size + 1, 0, none⟩) 1 1) ∧ w'.cell? ⟨w2.heap.size + 1 + 1, 5, none⟩ = some (.slice none 0 0))
        (go_keep)
        ((go_at_call 38; refine ((HB.out _ ?hb).e1).mono ?_; (case hb => repeat (first | exact BV.out | apply pw_below_drewN)); (rw [show timesS fr (fr + sp) r base = _ from hS]); rintro e w8 ⟨rfl, hb⟩; replace BV := Lib.hid (below_step (by repeat (first | exact BV.out | apply pw_below_drewN)) hb); replace z0 := pw_cell_below hb z0; replace z1 := pw_cell_below hb z1; replace z2 := pw_cell_below hb z2; replace z3 := pw_cell_below hb z3; replace z4 := pw_cell_below hb z4; replace z5 := pw_cell_below hb z5; replace z6 := pw_cell_below hb z6; replace z7 := pw_cell_below hb z7; replace z8 := pw_cell_below hb z8; replace z9 := pw_cell_below hb z9; replace z10 := pw_cell_below hb z10; replace z11 := pw_cell_below hb z11; clear hb))
      go_wp2
      go_region_held3 (fun w' => w'.cell? ⟨w2.heap.size, 0, none⟩ = some (.int .i64 d.f0) ∧ w'.cell? ⟨w2.heap.size, 1, none⟩ = some (.int .i64 d.f1) ∧ w'.cell? ⟨w2.heap.size, 2, none⟩ = some (.int .i64 d.f2) ∧ w'.cell? ⟨w2.heap.size, 3, none⟩ = some (.int .i64 d.f3) ∧ w'.cell? ⟨w2.heap.size, 4, none⟩ = some (.int .i64 d.f4) ∧ w'.cell? ⟨w2.heap.size, 5, none⟩ = some (.slice A1 d.f5.length cp1) ∧ w'.cell? ⟨w2.heap.size + 1 + 1, 0, none⟩ = some (.int .i64 1) ∧ w'.cell? ⟨w2.heap.size + 1 + 1, 1, none⟩ = some (.int .i64 x) ∧ w'.cell? ⟨w2.heap.size + 1 + 1, 2, none⟩ = some (.int .i64 fr) ∧ w'.cell? ⟨w2.heap.size + 1 + 1, 3, none⟩ = some (.int .i64 (fr + sp)) ∧ w'.cell? ⟨w2.heap.size + 1 + 1, 4, none⟩ = some (.slice (some ⟨w2.heap.size + 1, 0, none⟩) 1 1) ∧ w'.cell? ⟨w2.heap.size + 1 + 1, 5, none⟩ = some (.slice none 0 0))
        (go_keep)
        ((go_at_call 38; refine ((HB.out _ ?hb).e2).mono ?_; (case hb => repeat (first | exact BV.out | apply pw_below_drewN)); rintro e w8 ⟨rfl, hb⟩; replace BV := Lib.hid (below_step (by repeat (first | exact BV.out | apply pw_below_drewN)) hb); replace z0 := pw_cell_below hb z0; replace z1 := pw_cell_below hb z1; replace z2 := pw_cell_below hb z2; replace z3 := pw_cell_below hb z3; replace z4 := pw_cell_below hb z4; replace z5 := pw_cell_below hb z5; replace z6 := pw_cell_below hb z6; replace z7 := pw_cell_below hb z7; replace z8 := pw_cell_below hb z8; replace z9 := pw_cell_below hb z9; replace z10 := pw_cell_below hb z10; replace z11 := pw_cell_below hb z11; clear hb))
      go_wp2_with (go_at_call 42; (with_reducible refine ((HB.out _ (by repeat (first | exact BV.out | apply pw_below_drewN))).r1).mono ?_); rw [k1]; rintro e w8 ⟨rfl, hb⟩; replace BV := Lib.hid (below_step (by repeat (first | exact BV.out | apply pw_below_drewN)) hb); replace z0 := pw_cell_below hb z0; replace z1 := pw_cell_below hb z1; replace z2 := pw_cell_below hb z2; replace z3 := pw_cell_below hb z3; replace z4 := pw_cell_below hb z4; replace z5 := pw_cell_below hb z5; replace z6 := pw_cell_below hb z6; replace z7 := pw_cell_below hb z7; replace z8 := pw_cell_below hb z8; replace z9 := pw_cell_below hb z9; replace z10 := pw_cell_below hb z10; replace z11 := pw_cell_below hb z11; clear hb)
      go_ret
      exact ⟨rfl, below_step B4.out BV.out⟩
    · subst hsv
      go_region_held3 (fun w' => w'.cell? ⟨w2.heap.size, 0, none⟩ = some (.int .i64 d.f0) ∧ w'.cell? ⟨w2.heap.size, 1, none⟩ = some (.int .i64 d.f1) ∧ w'.cell? ⟨w2.heap.size, 2, none⟩ = some (.int .i64 d.f2) ∧ w'.cell? ⟨w2.heap.size, 3, none⟩ = some (.int .i64 d.f3) ∧ w'.cell? ⟨w2.heap.size, 4, none⟩ = some (.int .i64 d.f4) ∧ w'.cell? ⟨w2.heap.size, 5, none⟩ = some (.slice A1 d.f5.length cp1) ∧ w'.cell? ⟨w2.heap.size + 1 + 1, 0, none⟩ = some (.int .i64 1) ∧ w'.cell? ⟨w2.heap.size + 1 + 1, 1, none⟩ = some (.int .i64 x) ∧ w'.cell? ⟨w2.heap.size + 1 + 1, 2, none⟩ = some (.int .i64 fr) ∧ w'.cell? ⟨w2.heap.size + 1 + 1, 3, none⟩ = some (.int .i64 (fr + sp)) ∧ w'.cell? ⟨w2.heap.size + 1 + 1, 4, none⟩ = some (.slice (some ⟨w2.heap.size + 1, 0, none⟩) 1 1) ∧ w'.cell? ⟨w2.heap.size + 1 + 1, 5, none⟩ = some (.slice none 0 0))
        (go_keep)
        ((go_at_call 38; refine ((HB.out _ ?hb).e1).mono ?_; (case hb => repeat (first | exact BV.out | apply pw_below_drewN)); (rw [show timesS fr (fr + sp) r base = _ from hS]); rintro e w8 ⟨rfl, hb⟩; replace BV := Lib.hid (below_step (by repeat (first | exact BV.out | apply pw_below_drewN)) hb); replace z0 := pw_cell_below hb z0; replace z1 := pw_cell_below hb z1; replace z2 := pw_cell_below hb z2; replace z3 := pw_cell_below hb z3; replace z4 := pw_cell_below hb z4; replace z5 := pw_cell_below hb z5; replace z6 := pw_cell_below hb z6; replace z7 := pw_cell_below hb z7; replace z8 := pw_cell_below hb z8; replace z9 := pw_cell_below hb z9; replace z10 := pw_cell_below hb z10; replace z11 := pw_cell_below hb z11; clear hb))
      go_wp2
      go_region_held3 (fun w' => w'.cell? ⟨w2.heap.size, 0, none⟩ = some (.int .i64 d.f0) ∧ w'.cell? ⟨w2.heap.size, 1, none⟩ = some (.int .i64 d.f1) ∧ w'.cell? ⟨w2.heap.size, 2, none⟩ = some (.int .i64 d.f2) ∧ w'.cell? ⟨w2.heap.size, 3, none⟩ = some (.int .i64 d.f3) ∧ w'.cell? ⟨w2.heap.size, 4, none⟩ = some (.int .i64 d.f4) ∧ w'.cell? ⟨w2.heap.size, 5, none⟩ = some (.slice A1 d.f5.length cp1) ∧ w'.cell? ⟨w2.heap.size + 1 + 1, 0, none⟩ = some (.int .i64 1) ∧ w'.cell? ⟨w2.heap.size + 1 + 1, 1, none⟩ = some (.int .i64 x) ∧ w'.cell? ⟨w2.heap.size + 1 + 1, 2, none⟩ = some (.int .i64 fr) ∧ w'.cell? ⟨w2.heap.size + 1 + 1, 3, none⟩ = some (.int .i64 (fr + sp)) ∧ w'.cell? ⟨w2.heap.size + 1 + 1, 4, none⟩ = some (.slice (some ⟨w2.heap.size + 1, 0, none⟩) 1 1) ∧ w'.cell? ⟨w2.heap.size + 1 + 1, 5, none⟩ = some (.slice none 0 0))
        (go_keep)
        ((go_at_call 38; refine ((HB.out _ ?hb).e2).mono ?_; (case hb => repeat (first | exact BV.out | apply pw_below_drewN)); rintro e w8 ⟨rfl, hb⟩; replace BV := Lib.hid (below_step (by repeat (first | exact BV.out | apply pw_below_drewN)) hb); replace z0 := pw_cell_below hb z0; replace z1 := pw_cell_below hb z1; replace z2 := pw_cell_below hb z2; replace z3 := pw_cell_below hb z3; replace z4 := pw_cell_below hb z4; replace z5 := pw_cell_below hb z5; replace z6 := pw_cell_below hb z6; replace z7 := pw_cell_below hb z7; replace z8 := pw_cell_below hb z8; replace z9 := pw_cell_below hb z9; replace z10 := pw_cell_below hb z10; replace z11 := pw_cell_below hb z11; clear hb))
      go_wp2_with (go_at_call 42; (with_reducible refine ((HB.out _ (by repeat (first | exact BV.out | apply pw_below_drewN))).r1).mono ?_); rw [k1]; rintro e w8 ⟨rfl, hb⟩; replace BV := Lib.hid (below_step (by repeat (first | exact BV.out | apply pw_below_drewN)) hb); replace z0 := pw_cell_below hb z0; replace z1 := pw_cell_below hb z1; replace z2 := pw_cell_below hb z2; replace z3 := pw_cell_below hb z3; replace z4 := pw_cell_below hb z4; replace z5 := pw_cell_below hb z5; replace z6 := pw_cell_below hb z6; replace z7 := pw_cell_below hb z7; replace z8 := pw_cell_below hb z8; replace z9 := pw_cell_below hb z9; replace z10 := pw_cell_below hb z10; replace z11 := pw_cell_below hb z11; clear hb)
      go_ret
      exact ⟨rfl, below_step B4.out BV.out⟩
    · subst hsv
      go_region_held3 (fun w' => w'.cell? ⟨w2.heap.size, 0, none⟩ = some (.int .i64 d.f0) ∧ w'.cell? ⟨w2.heap.size, 1, none⟩ = some (.int .i64 d.f1) ∧ w'.cell? ⟨w2.heap.size, 2, none⟩ = some (.int .i64 d.f2) ∧ w'.cell? ⟨w2.heap.size, 3, none⟩ = some (.int .i64 d.f3) ∧ w'.cell? ⟨w2.heap.size, 4, none⟩ = some (.int .i64 d.f4) ∧ w'.cell? ⟨w2.heap.size, 5, none⟩ = some (.slice A1 d.f5.length cp1) ∧ w'.cell? ⟨w2.heap.size + 1 + 1, 0, none⟩ = some (.int .i64 1) ∧ w'.cell? ⟨w2.heap.size + 1 + 1, 1, none⟩ = some (.int .i64 x) ∧ w'.cell? ⟨w2.heap.size + 1 + 1, 2, none⟩ = some (.int .i64 fr) ∧ w'.cell? ⟨w2.heap.size + 1 + 1, 3, none⟩ = some (.int .i64 (fr + sp)) ∧ w'.cell? ⟨w2.heap.size + 1 + 1, 4, none⟩ = some (.slice (some ⟨w2.heap.size + 1, 0, none⟩) 1 1) ∧ w'.cell? ⟨w2.heap.size + 1 + 1, 5, none⟩ = some (.slice none 0 0))
        (go_keep)
        ((go_at_call 38; refine ((HB.out _ ?hb).e1).mono ?_; (case hb => repeat (first | exact BV.out | apply pw_below_drewN)); (rw [show timesS fr (fr + sp) r base = _ from hS]); rintro e w8 ⟨rfl, hb⟩; replace BV := Lib.hid (below_step (by repeat (first | exact BV.out | apply pw_below_drewN)) hb); replace z0 := pw_cell_below hb z0; replace z1 := pw_cell_below hb z1; replace z2 := pw_cell_below hb z2; replace z3 := pw_cell_below hb z3; replace z4 := pw_cell_below hb z4; replace z5 := pw_cell_below hb z5; replace z6 := pw_cell_below hb z6; replace z7 := pw_cell_below hb z7; replace z8 := pw_cell_below hb z8; replace z9 := pw_cell_below hb z9; replace z10 := pw_cell_below hb z10; replace z11 := pw_cell_below hb z11; clear hb))
      go_wp2
      go_region_held3 (fun w' => w'.cell? ⟨w2.heap.size, 0, none⟩ = some (.int .i64 d.f0) ∧ w'.cell? ⟨w2.heap.size, 1, none⟩ = some (.int .i64 d.f1) ∧ w'.cell? ⟨w2.heap.size, 2, none⟩ = some (.int .i64 d.f2) ∧ w'.cell? ⟨w2.heap.size, 3, none⟩ = some (.int .i64 d.f3) ∧ w'.cell? ⟨w2.heap.size, 4, none⟩ = some (.int .i64 d.f4) ∧ w'.cell? ⟨w2.heap.size, 5, none⟩ = some (.slice A1 d.f5.length cp1) ∧ w'.cell? ⟨w2.heap.size + 1 + 1, 0, none⟩ = some (.int .i64 1) ∧ w'.cell? ⟨w2.heap.size + 1 + 1, 1, none⟩ = some (.int .i64 x) ∧ w'.cell? ⟨w2.heap.size + 1 + 1, 2, none⟩ = some (.int .i64 fr) ∧ w'.cell? ⟨w2.heap.size + 1 + 1, 3, none⟩ = some (.int .i64 (fr + sp)) ∧ w'.cell? ⟨w2.heap.size + 1 + 1, 4, none⟩ = some (.slice (some ⟨w2.heap.size + 1, 0, none⟩) 1 1) ∧ w'.cell? ⟨w2.heap.size + 1 + 1, 5, none⟩ = some (.slice none 0 0))
        (go_keep)
        ((go_at_call 38; refine ((HB.out _ ?hb).e2).mono ?_; (case hb => repeat (first | exact BV.out | apply pw_below_drewN)); rintro e w8 ⟨rfl, hb⟩; replace BV := Lib.hid (below_step (by repeat (first | exact BV.out | apply pw_below_drewN)) hb); replace z0 := pw_cell_below hb z0; replace z1 := pw_cell_below hb z1; replace z2 := pw_cell_below hb z2; replace z3 := pw_cell_below hb z3; replace z4 := pw_cell_below hb z4; replace z5 := pw_cell_below hb z5; replace z6 := pw_cell_below hb z6; replace z7 := pw_cell_below hb z7; replace z8 := pw_cell_below hb z8; replace z9 := pw_cell_below hb z9; replace z10 := pw_cell_below hb z10; replace z11 := pw_cell_below hb z11; clear hb))
      go_wp2_with (go_at_call 42; (with_reducible refine ((HB.out _ (by repeat (first | exact BV.out | apply pw_below_drewN))).r1).mono ?_); rw [k1]; rintro e w8 ⟨rfl, hb⟩; replace BV := Lib.hid (below_step (by repeat (first | exact BV.out | apply pw_below_drewN)) hb); replace z0 := pw_cell_below hb z0; replace z1 := pw_cell_below hb z1; replace z2 := pw_cell_below hb z2; replace z3 := pw_cell_below hb z3; replace z4 := pw_cell_below hb z4; replace z5 := pw_cell_below hb z5; replace z6 := pw_cell_below hb z6; replace z7 := pw_cell_below hb z7; replace z8 := pw_cell_below hb z8; replace z9 := pw_cell_below hb z9; replace z10 := pw_cell_below hb z10; replace z11 := pw_cell_below hb z11; clear hb)
      go_region_held3 (fun w' => w'.cell? ⟨w2.heap.size, 0, none⟩ = some (.int .i64 d.f0) ∧ w'.cell? ⟨w2.heap.size, 1, none⟩ = some (.int .i64 d.f1) ∧ w'.cell? ⟨w2.heap.size, 2, none⟩ = some (.int .i64 d.f2) ∧ w'.cell? ⟨w2.heap.size, 3, none⟩ = some (.int .i64 d.f3) ∧ w'.cell? ⟨w2.heap.size, 4, none⟩ = some (.int .i64 d.f4) ∧ w'.cell? ⟨w2.heap.size, 5, none⟩ = some (.slice A1 d.f5.length cp1) ∧ w'.cell? ⟨w2.heap.size + 1 + 1, 0, none⟩ = some (.int .i64 1) ∧ w'.cell? ⟨w2.heap.size + 1 + 1, 1, none⟩ = some (.int .i64 x) ∧ w'.cell? ⟨w2.heap.size + 1 + 1, 2, none⟩ = some (.int .i64 fr) ∧ w'.cell? ⟨w2.heap.size + 1 + 1, 3, none⟩ = some (.int .i64 (fr + sp)) ∧ w'.cell? ⟨w2.heap.size + 1 + 1, 4, none⟩ = some (.slice (some ⟨w2.heap.size + 1, 0, none⟩) 1 1) ∧ w'.cell? ⟨w2.heap.size + 1 + 1, 5, none⟩ = some (.slice none 0 0))
        (go_keep)
        ((go_at_call 42; refine ((HB.out _ ?hb).r2).mono ?_; (case hb => repeat (first | exact BV.out | apply pw_below_drewN)); rintro e w8 ⟨rfl, hb⟩; replace BV := Lib.hid (below_step (by repeat (first | exact BV.out | apply pw_below_drewN)) hb); replace z0 := pw_cell_below hb z0; replace z1 := pw_cell_below hb z1; replace z2 := pw_cell_below hb z2; replace z3 := pw_cell_below hb z3; replace z4 := pw_cell_below hb z4; replace z5 := pw_cell_below hb z5; replace z6 := pw_cell_below hb z6; replace z7 := pw_cell_below hb z7; replace z8 := pw_cell_below hb z8; replace z9 := pw_cell_below hb z9; replace z10 := pw_cell_below hb z10; replace z11 := pw_cell_below hb z11; clear hb))
      go_wp2
      go_ret
      exact ⟨rfl, below_step B4.out BV.out⟩
end Go.Proofs.Ytkelibikjkgohaa.P

namespace Go.Proofs.Ytkelibikjkgohaa.P
set_option linter.unusedVariables false
open Go.ChangeShapes Go.WideShapes Go.ChangeAt Go.RowKit Go.Deep
open Go.ChangeMaps (open_string shut_string)
open Go.Proofs.YtkelibikjkgohaaW.PrintWords Go.Proofs.YtkelibikjkgohaaW.PrintLast Go.Proofs.YtkelibikjkgohaaW.PrintMore

section
variable {H : Type} {enc : TypeId × Value → H} {P : Program} {w : World} {base : Nat} {spare : Nat → Bool} {held : Bool}

/-- a struct of one-cell fields: each field's own reading -/
theorem one_cells {t : TypeId} {fs : Array Field} {fuel : Nat} {cs : List Value} {x : DataW H × List MemPlace} (hs : P.underlying t = some (.struct fs)) (hone : oneCellFields P fs = true) (hC : P.cellsOf t = fs.size) (h : DataW.trod enc P w base spare held fuel t cs = some x) :
    ∃ n, cs.length = fs.size ∧ ∀ (j : Nat) (f : Field) (u : Value), fs[j]? = some f → cs[j]? = some u → ∃ y, DataW.trod enc P w base spare held n f.type [u] = some y := by
  obtain ⟨xs, n, _, _, hcl, hlen, hg⟩ := DataW.trod_struct hs h
  refine ⟨n, hcl.trans hC, fun j f u hj hu => ?_⟩
  obtain ⟨o, k⟩ := hone_of hone j f hj
  have h1 := hg j f hj
  rw [o, k] at h1
  have hjl : j < cs.length := (List.getElem?_eq_some_iff.1 hu).1
  have hd : (cs.drop j).take 1 = [u] := by
    rw [List.drop_eq_getElem_cons hjl, (List.getElem?_eq_some_iff.1 hu).2]
    rfl
  rw [hd] at h1
  have hx : j < xs.length := by rw [hlen]; exact (Array.getElem?_eq_some_iff.1 hj).1
  exact ⟨xs[j], h1.trans (List.getElem?_eq_getElem hx)⟩

/-- a slice of whole numbers -/
theorem ints_open {t e : TypeId} {k : IntKind} {fuel : Nat} {u : Value} {x : DataW H × List MemPlace} (ht : P.underlying t = some (.slice e)) (he : P.underlying e = some (.int k)) (hc : P.cellsOf e = 1)
    (h : DataW.trod enc P w base spare held fuel t [u] = some x) : ∃ (A : Option Addr) (cp : Nat) (l : List Int), u = .slice A l.length cp ∧ l.length ≤ cp ∧ Kd.C (Kd.int k) w A l.length l ∧ l.length ≤ maxLen ∧ ∀ z ∈ l, (Lit.int k z).wf = true := by
  rcases open_ints ht he hc h with ⟨hcs, _⟩ | ⟨a, len, cap, zs, hcs, _, hl, hm, hz, _, hcell, hwz⟩
  · simp at hcs
    exact ⟨none, 0, [], hcs, Nat.le_refl _, Kd.C_nil _ _, Nat.zero_le _, by simp⟩
  · simp at hcs
    have hlz : len ≤ zs.length := by rw [hz]; split <;> omega
    have hlen : (zs.take len).length = len := by rw [List.length_take]; omega
    refine ⟨some a, cap, zs.take len, by rw [hlen]; exact hcs, by rw [hlen]; exact hl, ⟨rfl, ?_, fun hn => ⟨a, rfl, fun j p hp => ⟨[.int k p], rfl, rfl, fun i v hv => ?_⟩⟩⟩, by rw [hlen]; omega, fun z hm' => hwz z (List.mem_of_mem_take hm')⟩
    · rw [hlen]; have : maxLen ≤ 9223372036854775807 := by decide
      omega
    · rcases i with _ | i
      · simp at hv
        subst hv
        have hj : j < len := by
          have := (List.getElem?_eq_some_iff.1 hp).1
          omega
        have h1 := hcell j (by omega)
        rw [List.getElem?_take_of_lt hj] at hp
        rw [List.getD_eq_getElem?_getD, hp] at h1
        show w.cell? (a.add (j * 1 + 0)) = _
        simpa using h1
      · simp at hv
end

set_option maxRecDepth 100000 in
/-- the struct api.Conf -/
theorem open_conf {H : Type} {enc : TypeId × Value → H} {w : World} {r : Reach} {b0 base : Nat} {spare : Nat → Bool} {held : Bool} {v : Value} {d : DataW H} {p : List MemPlace} (hv : Value.okWide Try.prog w r b0 24 v) (h : DataW.Trod enc Try.prog w base spare held 24 v d p) :
    ∃ (y0 y1 y2 y3 y4 : Int) (A : Option Addr) (cp : Nat) (l : List Int), v = .agg #[.int .i64 y0, .int .i64 y1, .int .i64 y2, .int .i64 y3, .int .i64 y4, .slice A l.length cp] ∧ l.length ≤ cp ∧ Kd.C (Kd.int .i64) w A l.length l ∧ l.length ≤ maxLen := by
  obtain ⟨cs, rfl, hsz⟩ := okWide_struct Try.underlying24 hv
  obtain ⟨fuel, hf⟩ := h
  obtain ⟨n, hlen, hg⟩ := one_cells Try.underlying24 (by kernel_rfl) (by kernel_rfl) hf
  obtain ⟨l⟩ := cs
  match l, hlen with
  | [c0, c1, c2, c3, c4, c5], _ =>
    obtain ⟨x0, h0⟩ := hg 0 _ c0 rfl rfl
    obtain ⟨x1, h1⟩ := hg 1 _ c1 rfl rfl
    obtain ⟨x2, h2⟩ := hg 2 _ c2 rfl rfl
    obtain ⟨x3, h3⟩ := hg 3 _ c3 rfl rfl
    obtain ⟨x4, h4⟩ := hg 4 _ c4 rfl rfl
    obtain ⟨x5, h5⟩ := hg 5 _ c5 rfl rfl
    obtain ⟨y0, e0, _⟩ := DataW.trod_int (k := .i64) Try.underlying3 h0
    obtain ⟨y1, e1, _⟩ := DataW.trod_int (k := .i64) Try.underlying3 h1
    obtain ⟨y2, e2, _⟩ := DataW.trod_int (k := .i64) Try.underlying3 h2
    obtain ⟨y3, e3, _⟩ := DataW.trod_int (k := .i64) Try.underlying3 h3
    obtain ⟨y4, e4, _⟩ := DataW.trod_int (k := .i64) Try.underlying3 h4
    obtain ⟨A, cp, l, e5, hl, hC, hm, _⟩ := ints_open (k := .i64) Try.underlying22 Try.underlying3 (by kernel_rfl) h5
    simp only [List.cons.injEq, and_true] at e0 e1 e2 e3 e4
    subst e0 e1 e2 e3 e4 e5
    exact ⟨y0, y1, y2, y3, y4, A, cp, l, rfl, hl, hC, hm⟩
/-- a parameter that is a slice of whole numbers -/
theorem ints_law {H : Type} {enc : TypeId × Value → H} {P : Program} {W : World} {base : Nat} {spare : Nat → Bool} {held : Bool} {t e : TypeId} {k : IntKind} {A : Option Addr} {len cp : Nat} {d : DataW H} {ps : List MemPlace} {ts : List TypeId} {ds : List (DataW H)} {j : Nat}
    (hu : P.underlying t = some (.slice e)) (he : P.underlying e = some (.int k)) (hc : P.cellsOf e = 1) (hB : P.bytesOf e = 8) (hsz : (DataW.weightsEach P ts ds).all (· ≤ reachBytes) = true) (ht : ts[j]? = some t) (hd : ds[j]? = some d) (h : DataW.Trod enc P W base spare held t (.slice A len cp) d ps) :
    ∃ l : List Int, len = l.length ∧ l.length ≤ cp ∧ Kd.C (Kd.int k) W A l.length l ∧ l.length * 8 ≤ 140737488351232 ∧ ∀ z ∈ l, (Lit.int k z).wf = true := by
  have hs := Go.Proofs.YtkelibikjkgohaaW.PrintWords.sized_ints hsz ht hd hu he hc hB h
  obtain ⟨fuel, hf⟩ := h
  obtain ⟨A', cp', l, e1, h1, h2, h3, h4⟩ := ints_open hu he hc hf
  cases e1
  exact ⟨l, rfl, h1, h2, hs, h4⟩

/-- a slice of acts -/
theorem acts_open {H : Type} {enc : TypeId × Value → H} {w : World} {base : Nat} {spare : Nat → Bool} {held : Bool} {fuel : Nat} {u : Value} {x : DataW H × List MemPlace} (h : DataW.trod enc Try.prog w base spare held fuel 46 [u] = some x) :
    ∃ (A : Option Addr) (cp : Nat) (l : List S55), u = .slice A l.length cp ∧ l.length ≤ cp ∧ Kd.C k55 w A l.length l ∧ l.length ≤ maxLen ∧ ∀ a ∈ l, a.f2.size ≤ maxLen := by
  rcases open_slice Try.underlying46 h with ⟨hcs, _⟩ | ⟨a, len, cap, m, n, D, Pl, hcs, _, hl, hm, hmm, _, hi⟩
  · simp at hcs
    exact ⟨none, 0, [], hcs, Nat.le_refl _, Kd.C_nil _ _, Nat.zero_le _, by simp⟩
  · simp at hcs
    have hlm : len ≤ m := by rw [hmm]; split <;> omega
    have hC : Try.prog.cellsOf 55 = 3 := by kernel_rfl
    have one : ∀ i, i < len → ∃ s : S55, s.f2.size ≤ maxLen ∧ w.cell? (a.add (i * 3 + 0)) = some (.int .i64 s.f0) ∧ w.cell? (a.add (i * 3 + 1)) = some (.int .i64 s.f1) ∧ w.cell? (a.add (i * 3 + 2)) = some (.string s.f2) := by
      intro i hil
      obtain ⟨cs', hc, ht'⟩ := hi i (by omega)
      rw [hC] at hc
      obtain ⟨_, hcl, hat⟩ := World.cells?_some hc
      obtain ⟨n', hlen, hg⟩ := one_cells Try.underlying55 (by kernel_rfl) (by kernel_rfl) ht'
      match cs', hlen with
      | [c0, c1, c2], _ =>
        obtain ⟨x0, h0⟩ := hg 0 _ c0 rfl rfl
        obtain ⟨x1, h1⟩ := hg 1 _ c1 rfl rfl
        obtain ⟨x2, h2⟩ := hg 2 _ c2 rfl rfl
        obtain ⟨y0, e0, _⟩ := DataW.trod_int (k := .i64) Try.underlying3 h0
        obtain ⟨y1, e1, _⟩ := DataW.trod_int (k := .i64) Try.underlying3 h1
        obtain ⟨y2, e2, _, hs2⟩ := DataW.trod_string Try.underlying9 h2
        simp only [List.cons.injEq, and_true] at e0 e1 e2
        subst e0 e1 e2
        refine ⟨⟨y0, y1, y2⟩, hs2, ?_, ?_, ?_⟩
        · rw [← Go.Deep.add_add]; exact hat 0 (by simp)
        · rw [← Go.Deep.add_add]; exact hat 1 (by simp)
        · rw [← Go.Deep.add_add]; exact hat 2 (by simp)
    let l : List S55 := (List.range len).map fun i => if h : i < len then Classical.choose (one i h) else z55
    have hlen : l.length = len := by simp [l]
    have hget : ∀ j p, l[j]? = some p → p.f2.size ≤ maxLen ∧ w.cell? (a.add (j * 3 + 0)) = some (.int .i64 p.f0) ∧ w.cell? (a.add (j * 3 + 1)) = some (.int .i64 p.f1) ∧ w.cell? (a.add (j * 3 + 2)) = some (.string p.f2) := by
      intro j p hp
      have hj : j < len := by have := (List.getElem?_eq_some_iff.1 hp).1; omega
      simp only [l, List.getElem?_map, List.getElem?_range hj, Option.map_some, Option.some.injEq, dif_pos hj] at hp
      subst hp
      exact Classical.choose_spec (one j hj)
    refine ⟨some a, cap, l, by rw [hlen]; exact hcs, by rw [hlen]; exact hl, ⟨rfl, ?_, fun hn => ⟨a, rfl, fun j p hp => ⟨_, rfl, k55_mk w p, fun i v hv => ?_⟩⟩⟩, by rw [hlen]; omega, fun q hq => ?_⟩
    · rw [hlen]; have : maxLen ≤ 9223372036854775807 := by decide
      omega
    · obtain ⟨_, g0, g1, g2⟩ := hget j p hp
      rcases i with _ | _ | _ | i
      all_goals simp only [List.getElem?_cons_zero, List.getElem?_cons_succ, Option.some.injEq, List.getElem?_nil, reduceCtorEq] at hv
      all_goals subst hv
      · exact g0
      · exact g1
      · exact g2
    · obtain ⟨j, hj⟩ := List.getElem?_of_mem hq
      exact (hget j q hj).1

/-- what stands in memory of a locus -/
structure FaultIn (w : World) (x : S48) (v : Value) : Prop where
  ex : ∃ (A4 : Option Addr) (c4 : Nat) (A5 : Option Addr) (c5 : Nat), v = .agg #[.int .i64 x.f0, .int .i64 x.f1, .int .i64 x.f2, .int .i64 x.f3, .slice A4 x.f4.length c4, .slice A5 x.f5.length c5] ∧ x.f4.length ≤ c4 ∧ Kd.C k55 w A4 x.f4.length x.f4 ∧ x.f5.length ≤ c5 ∧ Kd.C (Kd.int .i64) w A5 x.f5.length x.f5
  l4 : x.f4.length ≤ maxLen
  l5 : x.f5.length ≤ maxLen
  t4 : ∀ a ∈ x.f4, a.f2.size ≤ maxLen
  w0 : (Lit.int .i64 x.f0).wf = true
  w1 : (Lit.int .i64 x.f1).wf = true
  w2 : (Lit.int .i64 x.f2).wf = true
  w3 : (Lit.int .i64 x.f3).wf = true

set_option maxRecDepth 100000 in
/-- the struct api.Fault -/
theorem open_fault {H : Type} {enc : TypeId × Value → H} {w : World} {r : Reach} {b0 base : Nat} {spare : Nat → Bool} {held : Bool} {v : Value} {d : DataW H} {p : List MemPlace} (hv : Value.okWide Try.prog w r b0 48 v) (h : DataW.Trod enc Try.prog w base spare held 48 v d p) :
    ∃ x : S48, FaultIn w x v := by
  obtain ⟨cs, rfl, hsz⟩ := okWide_struct Try.underlying48 hv
  obtain ⟨fuel, hf⟩ := h
  obtain ⟨n, hlen, hg⟩ := one_cells Try.underlying48 (by kernel_rfl) (by kernel_rfl) hf
  obtain ⟨l⟩ := cs
  match l, hlen with
  | [c0, c1, c2, c3, c4, c5], _ =>
    obtain ⟨x0, h0⟩ := hg 0 _ c0 rfl rfl
    obtain ⟨x1, h1⟩ := hg 1 _ c1 rfl rfl
    obtain ⟨x2, h2⟩ := hg 2 _ c2 rfl rfl
    obtain ⟨x3, h3⟩ := hg 3 _ c3 rfl rfl
    obtain ⟨x4, h4⟩ := hg 4 _ c4 rfl rfl
    obtain ⟨x5, h5⟩ := hg 5 _ c5 rfl rfl
    obtain ⟨y0, e0, _, g0⟩ := DataW.trod_int (k := .i64) Try.underlying3 h0
    obtain ⟨y1, e1, _, g1⟩ := DataW.trod_int (k := .i64) Try.underlying3 h1
    obtain ⟨y2, e2, _, g2⟩ := DataW.trod_int (k := .i64) Try.underlying3 h2
    obtain ⟨y3, e3, _, g3⟩ := DataW.trod_int (k := .i64) Try.underlying3 h3
    obtain ⟨A4, cp4, l4, e4, hl4, hC4, hm4, ht4⟩ := acts_open h4
    obtain ⟨A5, cp5, l5, e5, hl5, hC5, hm5, _⟩ := ints_open (k := .i64) Try.underlying22 Try.underlying3 (by kernel_rfl) h5
    simp only [List.cons.injEq, and_true] at e0 e1 e2 e3
    subst e0 e1 e2 e3 e4 e5
    exact ⟨⟨y0, y1, y2, y3, l4, l5⟩, ⟨A4, cp4, A5, cp5, rfl, hl4, hC4, hl5, hC5⟩, hm4, hm5, ht4, g0, g1, g2, g3⟩
end Go.Proofs.Ytkelibikjkgohaa.P
