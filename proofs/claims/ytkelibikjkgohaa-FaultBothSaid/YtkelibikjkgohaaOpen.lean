/- the laws' arguments, opened. -/
import Derived.Test.YtkelibikjkgohaaRows
import Derived.Test.YtkelibikjkgohaaK
import Derived.Test.YtkelibikjkgohaaWSized
import Derived.WalkKit
import Derived.ProofKit
import Derived.OpenShut
import Derived.ShutString
import Derived.ChangeOld
import Derived.Below
import Derived.SizedLaws
import Derived.Deep.Fields
import Derived.ChangeSlices
import Derived.ChangeArms
import Derived.Deep.Slices
namespace Go.Proofs.Ytkelibikjkgohaa.P
set_option linter.unusedVariables false
open Go.ChangeShapes Go.WideShapes Go.ChangeAt Go.RowKit Go.Deep
open Go.ChangeMaps (open_string shut_string)
open Go.Proofs.YtkelibikjkgohaaW.PrintWords Go.Proofs.YtkelibikjkgohaaW.PrintLast Go.Proofs.YtkelibikjkgohaaW.PrintMore

section
variable {H : Type} {enc : TypeId × Value → H} {P : Program} {w : World} {base : Nat} {spare : Nat → Bool} {held : Bool}

/-- a struct of one-cell fields: each field's own reading -/
theorem one_cells {t : TypeId} {fs : Array Field} {fuel : Nat} {cs : List Value} {x : DataW H × List MemPlace} (hs : P.underlying t = some (.struct fs)) (hone : oneCellFields P fs = true) (hC : P.cellsOf t = fs.size) (h : DataW.trod enc P w base spare held fuel t cs = some x) :
    ∃ n, cs.length = fs.size ∧ ∀ (j : Nat) (f : Field) (u : Value), fs[j]? = some f → cs[j]? = some u → ∃ y, DataW.trod enc P w base spare held n f.type [u] = some y := by
  obtain ⟨xs, n, _, _, hcl, hlen, hg⟩ := DataW.trod_struct hs h
  refine ⟨n, hcl.trans hC, fun j f u hj hu => ?_⟩
  obtain ⟨o, k⟩ := hone_of hone j f hj
  have h1 := hg j f hj
  rw [o, k] at h1
  have hjl : j < cs.length := (List.getElem?_eq_some_iff.1 hu).1
  have hd : (cs.drop j).take 1 = [u] := by
    rw [List.drop_eq_getElem_cons hjl, (List.getElem?_eq_some_iff.1 hu).2]
    rfl
  rw [hd] at h1
  have hx : j < xs.length := by rw [hlen]; exact (Array.getElem?_eq_some_iff.1 hj).1
  exact ⟨xs[j], h1.trans (List.getElem?_eq_getElem hx)⟩

/-- a slice of whole numbers -/
theorem ints_open {t e : TypeId} {k : IntKind} {fuel : Nat} {u : Value} {x : DataW H × List MemPlace} (ht : P.underlying t = some (.slice e)) (he : P.underlying e = some (.int k)) (hc : P.cellsOf e = 1)
    (h : DataW.trod enc P w base spare held fuel t [u] = some x) : ∃ (A : Option Addr) (cp : Nat) (l : List Int), u = .slice A l.length cp ∧ l.length ≤ cp ∧ Kd.C (Kd.int k) w A l.length l ∧ l.length ≤ maxLen ∧ ∀ z ∈ l, (Lit.int k z).wf = true := by
  rcases open_ints ht he hc h with ⟨hcs, _⟩ | ⟨a, len, cap, zs, hcs, _, hl, hm, hz, _, hcell, hwz⟩
  · simp at hcs
    exact ⟨none, 0, [], hcs, Nat.le_refl _, Kd.C_nil _ _, Nat.zero_le _, by simp⟩
  · simp at hcs
    have hlz : len ≤ zs.length := by rw [hz]; split <;> omega
    have hlen : (zs.take len).length = len := by rw [List.length_take]; omega
    refine ⟨some a, cap, zs.take len, by rw [hlen]; exact hcs, by rw [hlen]; exact hl, ⟨rfl, ?_, fun hn => ⟨a, rfl, fun j p hp => ⟨[.int k p], rfl, rfl, fun i v hv => ?_⟩⟩⟩, by rw [hlen]; omega, fun z hm' => hwz z (List.mem_of_mem_take hm')⟩
    · rw [hlen]; have : maxLen ≤ 9223372036854775807 := by decide
      omega
    · rcases i with _ | i
      · simp at hv
        subst hv
        have hj : j < len := by
          have := (List.getElem?_eq_some_iff.1 hp).1
          omega
        have h1 := hcell j (by omega)
        rw [List.getElem?_take_of_lt hj] at hp
        rw [List.getD_eq_getElem?_getD, hp] at h1
        show w.cell? (a.add (j * 1 + 0)) = _
        simpa using h1
      · simp at hv
end

set_option maxRecDepth 100000 in
/-- the struct api.Conf -/
theorem open_conf {H : Type} {enc : TypeId × Value → H} {w : World} {r : Reach} {b0 base : Nat} {spare : Nat → Bool} {held : Bool} {v : Value} {d : DataW H} {p : List MemPlace} (hv : Value.okWide Try.prog w r b0 24 v) (h : DataW.Trod enc Try.prog w base spare held 24 v d p) :
    ∃ (y0 y1 y2 y3 y4 : Int) (A : Option Addr) (cp : Nat) (l : List Int), v = .agg #[.int .i64 y0, .int .i64 y1, .int .i64 y2, .int .i64 y3, .int .i64 y4, .slice A l.length cp] ∧ l.length ≤ cp ∧ Kd.C (Kd.int .i64) w A l.length l ∧ l.length ≤ maxLen := by
  obtain ⟨cs, rfl, hsz⟩ := okWide_struct Try.underlying24 hv
  obtain ⟨fuel, hf⟩ := h
  obtain ⟨n, hlen, hg⟩ := one_cells Try.underlying24 (by kernel_rfl) (by kernel_rfl) hf
  obtain ⟨l⟩ := cs
  match l, hlen with
  | [c0, c1, c2, c3, c4, c5], _ =>
    obtain ⟨x0, h0⟩ := hg 0 _ c0 rfl rfl
    obtain ⟨x1, h1⟩ := hg 1 _ c1 rfl rfl
    obtain ⟨x2, h2⟩ := hg 2 _ c2 rfl rfl
    obtain ⟨x3, h3⟩ := hg 3 _ c3 rfl rfl
    obtain ⟨x4, h4⟩ := hg 4 _ c4 rfl rfl
    obtain ⟨x5, h5⟩ := hg 5 _ c5 rfl rfl
    obtain ⟨y0, e0, _⟩ := DataW.trod_int (k := .i64) Try.underlying3 h0
    obtain ⟨y1, e1, _⟩ := DataW.trod_int (k := .i64) Try.underlying3 h1
    obtain ⟨y2, e2, _⟩ := DataW.trod_int (k := .i64) Try.underlying3 h2
    obtain ⟨y3, e3, _⟩ := DataW.trod_int (k := .i64) Try.underlying3 h3
    obtain ⟨y4, e4, _⟩ := DataW.trod_int (k := .i64) Try.underlying3 h4
    obtain ⟨A, cp, l, e5, hl, hC, hm, _⟩ := ints_open (k := .i64) Try.underlying22 Try.underlying3 (by kernel_rfl) h5
    simp only [List.cons.injEq, and_true] at e0 e1 e2 e3 e4
    subst e0 e1 e2 e3 e4 e5
    exact ⟨y0, y1, y2, y3, y4, A, cp, l, rfl, hl, hC, hm⟩
end Go.Proofs.Ytkelibikjkgohaa.P
