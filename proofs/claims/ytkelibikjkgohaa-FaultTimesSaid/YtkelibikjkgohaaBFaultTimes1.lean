/- Texts for the law FaultTimes, put together by wip/tools/merge.py: K, Sp, HClean, HTurn, Bits, HFault, F128, HLink, F77, HDone, HConf, HEmit, F137, E26, F136, F120, F114, HFrameCheck, F65. -/
import Derived.Test.YtkelibikjkgohaaProg
import Derived.Below
import Derived.Deep.Draws
import Derived.Deep.AppendLies
import Derived.Maps.AppendAt
import Derived.OwnWalk
import Derived.Laws.BytesArg
import Derived.Laws.MakeOwn
import Derived.Laws.OwnMore
import Derived.Deep.OwnRows
import Derived.Tactics
import Derived.Lib.ConvBytes
import Derived.Laws.Slices
import Derived.WalkKit
import Derived.KernelRfl
import Derived.RowKit3
import Derived.Deep.LoopGhost
import Derived.Deep.QuietTactic
import Derived.BigQuiet
import Derived.WideLaws
import Derived.Deep.DeepCutAuto
import Derived.Deep.CutBlock
import Derived.Deep.RegionHeld3
import Derived.Laws.Rows
import Derived.Lib.AppendStr
import Derived.ArgAppend
import Derived.Laws.IdiomCopy
import Derived.OrdersHeld
import Derived.Laws.BitsLemmas
import Derived.RowKit
import Derived.Test.YtkelibikjkgohaaWWords
import Derived.Test.YtkelibikjkgohaaWLast
import Derived.Test.YtkelibikjkgohaaWTab
import Derived.Test.YtkelibikjkgohaaWFour
import Derived.Test.YtkelibikjkgohaaWQPut
import Derived.Test.YtkelibikjkgohaaWApart
import Derived.Test.YtkelibikjkgohaaWArr
import Derived.Test.YtkelibikjkgohaaWZeros
import Derived.Test.YtkelibikjkgohaaWFoot
import Derived.Test.YtkelibikjkgohaaWKept
import Derived.Test.YtkelibikjkgohaaWShare
import Derived.Test.YtkelibikjkgohaaWN
import Derived.Test.YtkelibikjkgohaaWFootNe
import Derived.Test.YtkelibikjkgohaaWAt
import Derived.Test.YtkelibikjkgohaaWEqStruct
import Derived.Test.YtkelibikjkgohaaWRepsOne
import Derived.Test.YtkelibikjkgohaaWInv
import Derived.Test.YtkelibikjkgohaaWInvWords
import Derived.Test.YtkelibikjkgohaaWGuard
import Derived.Test.YtkelibikjkgohaaWNEv
import Derived.Test.YtkelibikjkgohaaWMore
import Derived.Laws.RangeString
import Derived.Laws.RangeAny
import Derived.Lib.Hide
import Derived.Outline
namespace Go.Proofs.Ytkelibikjkgohaa.P
open Go.RowKit Go.Proofs.YtkelibikjkgohaaW.PrintWords Go.Proofs.YtkelibikjkgohaaW.PrintLast Go.Proofs.YtkelibikjkgohaaW.PrintMore
attribute [local go_sem] max2_int min2_int max_two min_two max_three min_three max_four min_four
set_option linter.unusedVariables false
set_option linter.unusedSimpArgs false
def errW : Option Int → Value
  | none => .nilIface
  | some c => .iface 0 (.int .i64 c)
theorem errW_none : errW none = .nilIface := rfl
theorem errW_some (c : Int) : errW (some c) = .iface 0 (.int .i64 c) := rfl

theorem info3 : (Try.prog.info? 3).map (fun i => (i.zero, i.size, i.bytes)) = some (some (.int .i64 0), 1, 8) := by kernel_rfl
theorem info4 : (Try.prog.info? 4).map (fun i => (i.zero, i.size, i.bytes)) = some (some (.bool false), 1, 1) := by kernel_rfl
theorem info5 : (Try.prog.info? 5).map (fun i => (i.zero, i.size, i.bytes)) = some (some (.int .u8 0), 1, 1) := by kernel_rfl
theorem info9 : (Try.prog.info? 9).map (fun i => (i.zero, i.size, i.bytes)) = some (some (.string ⟨#[]⟩), 1, 16) := by kernel_rfl
theorem info26 : (Try.prog.info? 26).map (fun i => (i.zero, i.size, i.bytes)) = some (some (.agg #[(.int .i64 0), (.int .i64 0)]), 2, 16) := by kernel_rfl
theorem info37 : (Try.prog.info? 37).map (fun i => (i.zero, i.size, i.bytes)) = some (some (.agg #[(.string ⟨#[]⟩), (.string ⟨#[]⟩), (.string ⟨#[]⟩), (.int .i64 0)]), 4, 56) := by kernel_rfl
theorem info55 : (Try.prog.info? 55).map (fun i => (i.zero, i.size, i.bytes)) = some (some (.agg #[(.int .i64 0), (.int .i64 0), (.string ⟨#[]⟩)]), 3, 32) := by kernel_rfl
theorem info108 : (Try.prog.info? 108).map (fun i => (i.zero, i.size, i.bytes)) = some (some (.agg #[(.string ⟨#[]⟩), (.int .i64 0), (.int .i64 0), (.int .i64 0), (.int .i64 0), (.int .i64 0), (.slice none 0 0)]), 7, 80) := by kernel_rfl
-- the values' own types
/-! #### struct type 26 -/
structure S26 where
  f0 : Int
  f1 : Int
def z26 : S26 := ⟨(0 : Int), (0 : Int)⟩
def k26 : Kd S26 := Kd.iso (Kd.pair (Kd.int .i64) (Kd.int .i64)) (fun x : S26 => (x.f0, x.f1))
theorem k26_open {w : World} {x : S26} {cs : List Value} (h : k26.K w x cs) : cs = [.int .i64 x.f0, .int .i64 x.f1] := by
  obtain ⟨_, _, rfl, rfl, rfl⟩ := h
  exact rfl
theorem k26_openM {w : World} {base : Nat} {ok : Nat → Prop} {x : S26} {cs : List Value} (h : k26.M w base ok x cs) : cs = [.int .i64 x.f0, .int .i64 x.f1] := by
  obtain ⟨_, _, rfl, rfl, rfl⟩ := h
  exact rfl
theorem k26_mk (w : World) (x : S26)  : k26.K w x [.int .i64 x.f0, .int .i64 x.f1] := ⟨[.int .i64 x.f0], [.int .i64 x.f1], rfl, rfl, rfl⟩
theorem k26_mkM (w : World) (base : Nat) (ok : Nat → Prop) (x : S26)  : k26.M w base ok x [.int .i64 x.f0, .int .i64 x.f1] := ⟨[.int .i64 x.f0], [.int .i64 x.f1], rfl, rfl, rfl⟩
def rd_T26 (xs : List S26) (i : Int) : S26 := xs.getD i.toNat z26
theorem at_T26 {w : World} {A : Option Addr} {n : Nat} {xs : List S26} (h : Kd.C k26 w A n xs) (i : Int) (h0 : 0 ≤ i) (h1 : i < n) : ∃ ad , A = some ad ∧ w.cell? (ad.add (i.toNat * 2)) = some (.int .i64 (rd_T26 xs i).f0) ∧ w.cell? ⟨(ad.add (i.toNat * 2)).block, (ad.add (i.toNat * 2)).off + 1, none⟩ = some (.int .i64 (rd_T26 xs i).f1) := by
  obtain ⟨ad, c, e, _, hK, hc0⟩ := Kd.C_get h z26 i h0 h1
  have hc : ∀ j u, c[j]? = some u → w.cell? (ad.add (i.toNat * 2 + j)) = some u := hc0
  obtain rfl := k26_open hK
  exact ⟨ad, e, hc 0 _ rfl, by rw [← add_field _ _ 1 (by omega)]; exact hc 1 _ rfl⟩

def rd_L2 (xs : List (List Int)) (i : Int) : (List Int) := xs.getD i.toNat ([] : List Int)
theorem at_L2 {w : World} {A : Option Addr} {n : Nat} {xs : List (List Int)} (h : Kd.C (Kd.slice 3 (Kd.int .i64)) w A n xs) (i : Int) (h0 : 0 ≤ i) (h1 : i < n) : ∃ ad A0 c0, A = some ad ∧ w.cell? (ad.add i.toNat) = some (.slice A0 (rd_L2 xs i).length c0) ∧ (rd_L2 xs i).length ≤ c0 ∧ (Kd.int .i64).C w A0 (rd_L2 xs i).length (rd_L2 xs i) := by
  obtain ⟨ad, c, e, _, hK, hc0⟩ := Kd.C_get h ([] : List Int) i h0 h1
  have hc : ∀ j u, c[j]? = some u → w.cell? (ad.add (i.toNat * 1 + j)) = some u := hc0
  obtain ⟨A0, c0, rfl, l0, g0⟩ := hK
  exact ⟨ad, A0, c0, e, by have hq := hc 0 _ rfl; rwa [Nat.mul_one, Nat.add_zero] at hq, l0, g0⟩

/-! #### struct type 24 -/
structure S24 where
  f0 : Int
  f1 : Int
  f2 : Int
  f3 : Int
  f4 : Int
  f5 : (List Int)
def z24 : S24 := ⟨(0 : Int), (0 : Int), (0 : Int), (0 : Int), (0 : Int), ([] : List Int)⟩
def k24 : Kd S24 := Kd.iso (Kd.pair (Kd.int .i64) (Kd.pair (Kd.int .i64) (Kd.pair (Kd.int .i64) (Kd.pair (Kd.int .i64) (Kd.pair (Kd.int .i64) (Kd.slice 3 (Kd.int .i64))))))) (fun x : S24 => (x.f0, x.f1, x.f2, x.f3, x.f4, x.f5))
theorem k24_open {w : World} {x : S24} {cs : List Value} (h : k24.K w x cs) : ∃ A5 c5, cs = [.int .i64 x.f0, .int .i64 x.f1, .int .i64 x.f2, .int .i64 x.f3, .int .i64 x.f4, .slice A5 x.f5.length c5] ∧ x.f5.length ≤ c5 ∧ (Kd.int .i64).C w A5 x.f5.length x.f5 := by
  obtain ⟨_, _, rfl, rfl, ⟨_, _, rfl, rfl, ⟨_, _, rfl, rfl, ⟨_, _, rfl, rfl, ⟨_, _, rfl, rfl, ⟨A5, c5, rfl, l5, g5⟩⟩⟩⟩⟩⟩ := h
  exact ⟨A5, c5, rfl, l5, g5⟩
theorem k24_openM {w : World} {base : Nat} {ok : Nat → Prop} {x : S24} {cs : List Value} (h : k24.M w base ok x cs) : ∃ v5, cs = [.int .i64 x.f0, .int .i64 x.f1, .int .i64 x.f2, .int .i64 x.f3, .int .i64 x.f4, v5] ∧ (Kd.int .i64).R 3 w base ok v5 x.f5 := by
  obtain ⟨_, _, rfl, rfl, ⟨_, _, rfl, rfl, ⟨_, _, rfl, rfl, ⟨_, _, rfl, rfl, ⟨_, _, rfl, rfl, ⟨v5, rfl, g5⟩⟩⟩⟩⟩⟩ := h
  exact ⟨v5, rfl, g5⟩
theorem k24_mk (w : World) (x : S24) {A5 : Option Addr} {c5 : Nat} (l5 : x.f5.length ≤ c5) (g5 : (Kd.int .i64).C w A5 x.f5.length x.f5) : k24.K w x [.int .i64 x.f0, .int .i64 x.f1, .int .i64 x.f2, .int .i64 x.f3, .int .i64 x.f4, .slice A5 x.f5.length c5] := ⟨[.int .i64 x.f0], [.int .i64 x.f1, .int .i64 x.f2, .int .i64 x.f3, .int .i64 x.f4, .slice A5 x.f5.length c5], rfl, rfl, ⟨[.int .i64 x.f1], [.int .i64 x.f2, .int .i64 x.f3, .int .i64 x.f4, .slice A5 x.f5.length c5], rfl, rfl, ⟨[.int .i64 x.f2], [.int .i64 x.f3, .int .i64 x.f4, .slice A5 x.f5.length c5], rfl, rfl, ⟨[.int .i64 x.f3], [.int .i64 x.f4, .slice A5 x.f5.length c5], rfl, rfl, ⟨[.int .i64 x.f4], [.slice A5 x.f5.length c5], rfl, rfl, ⟨A5, c5, rfl, l5, g5⟩⟩⟩⟩⟩⟩
theorem k24_mkM (w : World) (base : Nat) (ok : Nat → Prop) (x : S24) {v5 : Value} (g5 : (Kd.int .i64).R 3 w base ok v5 x.f5) : k24.M w base ok x [.int .i64 x.f0, .int .i64 x.f1, .int .i64 x.f2, .int .i64 x.f3, .int .i64 x.f4, v5] := ⟨[.int .i64 x.f0], [.int .i64 x.f1, .int .i64 x.f2, .int .i64 x.f3, .int .i64 x.f4, v5], rfl, rfl, ⟨[.int .i64 x.f1], [.int .i64 x.f2, .int .i64 x.f3, .int .i64 x.f4, v5], rfl, rfl, ⟨[.int .i64 x.f2], [.int .i64 x.f3, .int .i64 x.f4, v5], rfl, rfl, ⟨[.int .i64 x.f3], [.int .i64 x.f4, v5], rfl, rfl, ⟨[.int .i64 x.f4], [v5], rfl, rfl, ⟨v5, rfl, g5⟩⟩⟩⟩⟩⟩
def rd_T24 (xs : List S24) (i : Int) : S24 := xs.getD i.toNat z24
theorem at_T24 {w : World} {A : Option Addr} {n : Nat} {xs : List S24} (h : Kd.C k24 w A n xs) (i : Int) (h0 : 0 ≤ i) (h1 : i < n) : ∃ ad A5 c5, A = some ad ∧ w.cell? (ad.add (i.toNat * 6)) = some (.int .i64 (rd_T24 xs i).f0) ∧ w.cell? ⟨(ad.add (i.toNat * 6)).block, (ad.add (i.toNat * 6)).off + 1, none⟩ = some (.int .i64 (rd_T24 xs i).f1) ∧ w.cell? ⟨(ad.add (i.toNat * 6)).block, (ad.add (i.toNat * 6)).off + 2, none⟩ = some (.int .i64 (rd_T24 xs i).f2) ∧ w.cell? ⟨(ad.add (i.toNat * 6)).block, (ad.add (i.toNat * 6)).off + 3, none⟩ = some (.int .i64 (rd_T24 xs i).f3) ∧ w.cell? ⟨(ad.add (i.toNat * 6)).block, (ad.add (i.toNat * 6)).off + 4, none⟩ = some (.int .i64 (rd_T24 xs i).f4) ∧ w.cell? ⟨(ad.add (i.toNat * 6)).block, (ad.add (i.toNat * 6)).off + 5, none⟩ = some (.slice A5 (rd_T24 xs i).f5.length c5) ∧ (rd_T24 xs i).f5.length ≤ c5 ∧ (Kd.int .i64).C w A5 (rd_T24 xs i).f5.length (rd_T24 xs i).f5 := by
  obtain ⟨ad, c, e, _, hK, hc0⟩ := Kd.C_get h z24 i h0 h1
  have hc : ∀ j u, c[j]? = some u → w.cell? (ad.add (i.toNat * 6 + j)) = some u := hc0
  obtain ⟨A5, c5, rfl, l5, g5⟩ := k24_open hK
  exact ⟨ad, A5, c5, e, hc 0 _ rfl, by rw [← add_field _ _ 1 (by omega)]; exact hc 1 _ rfl, by rw [← add_field _ _ 2 (by omega)]; exact hc 2 _ rfl, by rw [← add_field _ _ 3 (by omega)]; exact hc 3 _ rfl, by rw [← add_field _ _ 4 (by omega)]; exact hc 4 _ rfl, by rw [← add_field _ _ 5 (by omega)]; exact hc 5 _ rfl, l5, g5⟩

def rd_L4 (xs : List (List S26)) (i : Int) : (List S26) := xs.getD i.toNat ([] : List S26)
theorem at_L4 {w : World} {A : Option Addr} {n : Nat} {xs : List (List S26)} (h : Kd.C (Kd.slice 26 k26) w A n xs) (i : Int) (h0 : 0 ≤ i) (h1 : i < n) : ∃ ad A0 c0, A = some ad ∧ w.cell? (ad.add i.toNat) = some (.slice A0 (rd_L4 xs i).length c0) ∧ (rd_L4 xs i).length ≤ c0 ∧ k26.C w A0 (rd_L4 xs i).length (rd_L4 xs i) := by
  obtain ⟨ad, c, e, _, hK, hc0⟩ := Kd.C_get h ([] : List S26) i h0 h1
  have hc : ∀ j u, c[j]? = some u → w.cell? (ad.add (i.toNat * 1 + j)) = some u := hc0
  obtain ⟨A0, c0, rfl, l0, g0⟩ := hK
  exact ⟨ad, A0, c0, e, by have hq := hc 0 _ rfl; rwa [Nat.mul_one, Nat.add_zero] at hq, l0, g0⟩

/-! #### struct type 29 -/
structure S29 where
  f0 : Int
  f1 : Int
  f2 : Int
  f3 : S26
  f4 : (List S26)
def z29 : S29 := ⟨(0 : Int), (0 : Int), (0 : Int), z26, ([] : List S26)⟩
def k29 : Kd S29 := Kd.iso (Kd.pair (Kd.int .i64) (Kd.pair (Kd.int .i64) (Kd.pair (Kd.int .i64) (Kd.pair k26 (Kd.slice 26 k26))))) (fun x : S29 => (x.f0, x.f1, x.f2, x.f3, x.f4))
theorem k29_open {w : World} {x : S29} {cs : List Value} (h : k29.K w x cs) : ∃ A5 c5, cs = [.int .i64 x.f0, .int .i64 x.f1, .int .i64 x.f2, .int .i64 x.f3.f0, .int .i64 x.f3.f1, .slice A5 x.f4.length c5] ∧ x.f4.length ≤ c5 ∧ k26.C w A5 x.f4.length x.f4 := by
  obtain ⟨_, _, rfl, rfl, ⟨_, _, rfl, rfl, ⟨_, _, rfl, rfl, ⟨_, _, rfl, s3, ⟨A5, c5, rfl, l5, g5⟩⟩⟩⟩⟩ := h
  obtain rfl := k26_open s3
  exact ⟨A5, c5, rfl, l5, g5⟩
theorem k29_openM {w : World} {base : Nat} {ok : Nat → Prop} {x : S29} {cs : List Value} (h : k29.M w base ok x cs) : ∃ v5, cs = [.int .i64 x.f0, .int .i64 x.f1, .int .i64 x.f2, .int .i64 x.f3.f0, .int .i64 x.f3.f1, v5] ∧ k26.R 26 w base ok v5 x.f4 := by
  obtain ⟨_, _, rfl, rfl, ⟨_, _, rfl, rfl, ⟨_, _, rfl, rfl, ⟨_, _, rfl, s3, ⟨v5, rfl, g5⟩⟩⟩⟩⟩ := h
  obtain rfl := k26_openM s3
  exact ⟨v5, rfl, g5⟩
theorem k29_mk (w : World) (x : S29) {A5 : Option Addr} {c5 : Nat} (l5 : x.f4.length ≤ c5) (g5 : k26.C w A5 x.f4.length x.f4) : k29.K w x [.int .i64 x.f0, .int .i64 x.f1, .int .i64 x.f2, .int .i64 x.f3.f0, .int .i64 x.f3.f1, .slice A5 x.f4.length c5] := ⟨[.int .i64 x.f0], [.int .i64 x.f1, .int .i64 x.f2, .int .i64 x.f3.f0, .int .i64 x.f3.f1, .slice A5 x.f4.length c5], rfl, rfl, ⟨[.int .i64 x.f1], [.int .i64 x.f2, .int .i64 x.f3.f0, .int .i64 x.f3.f1, .slice A5 x.f4.length c5], rfl, rfl, ⟨[.int .i64 x.f2], [.int .i64 x.f3.f0, .int .i64 x.f3.f1, .slice A5 x.f4.length c5], rfl, rfl, ⟨[.int .i64 x.f3.f0, .int .i64 x.f3.f1], [.slice A5 x.f4.length c5], rfl, (k26_mk w x.f3 ), ⟨A5, c5, rfl, l5, g5⟩⟩⟩⟩⟩
theorem k29_mkM (w : World) (base : Nat) (ok : Nat → Prop) (x : S29) {v5 : Value} (g5 : k26.R 26 w base ok v5 x.f4) : k29.M w base ok x [.int .i64 x.f0, .int .i64 x.f1, .int .i64 x.f2, .int .i64 x.f3.f0, .int .i64 x.f3.f1, v5] := ⟨[.int .i64 x.f0], [.int .i64 x.f1, .int .i64 x.f2, .int .i64 x.f3.f0, .int .i64 x.f3.f1, v5], rfl, rfl, ⟨[.int .i64 x.f1], [.int .i64 x.f2, .int .i64 x.f3.f0, .int .i64 x.f3.f1, v5], rfl, rfl, ⟨[.int .i64 x.f2], [.int .i64 x.f3.f0, .int .i64 x.f3.f1, v5], rfl, rfl, ⟨[.int .i64 x.f3.f0, .int .i64 x.f3.f1], [v5], rfl, (k26_mkM w base ok x.f3 ), ⟨v5, rfl, g5⟩⟩⟩⟩⟩
def rd_T29 (xs : List S29) (i : Int) : S29 := xs.getD i.toNat z29
theorem at_T29 {w : World} {A : Option Addr} {n : Nat} {xs : List S29} (h : Kd.C k29 w A n xs) (i : Int) (h0 : 0 ≤ i) (h1 : i < n) : ∃ ad A5 c5, A = some ad ∧ w.cell? (ad.add (i.toNat * 6)) = some (.int .i64 (rd_T29 xs i).f0) ∧ w.cell? ⟨(ad.add (i.toNat * 6)).block, (ad.add (i.toNat * 6)).off + 1, none⟩ = some (.int .i64 (rd_T29 xs i).f1) ∧ w.cell? ⟨(ad.add (i.toNat * 6)).block, (ad.add (i.toNat * 6)).off + 2, none⟩ = some (.int .i64 (rd_T29 xs i).f2) ∧ w.cell? ⟨(ad.add (i.toNat * 6)).block, (ad.add (i.toNat * 6)).off + 3, none⟩ = some (.int .i64 (rd_T29 xs i).f3.f0) ∧ w.cell? ⟨(ad.add (i.toNat * 6)).block, (ad.add (i.toNat * 6)).off + 4, none⟩ = some (.int .i64 (rd_T29 xs i).f3.f1) ∧ w.cell? ⟨(ad.add (i.toNat * 6)).block, (ad.add (i.toNat * 6)).off + 5, none⟩ = some (.slice A5 (rd_T29 xs i).f4.length c5) ∧ (rd_T29 xs i).f4.length ≤ c5 ∧ k26.C w A5 (rd_T29 xs i).f4.length (rd_T29 xs i).f4 := by
  obtain ⟨ad, c, e, _, hK, hc0⟩ := Kd.C_get h z29 i h0 h1
  have hc : ∀ j u, c[j]? = some u → w.cell? (ad.add (i.toNat * 6 + j)) = some u := hc0
  obtain ⟨A5, c5, rfl, l5, g5⟩ := k29_open hK
  exact ⟨ad, A5, c5, e, hc 0 _ rfl, by rw [← add_field _ _ 1 (by omega)]; exact hc 1 _ rfl, by rw [← add_field _ _ 2 (by omega)]; exact hc 2 _ rfl, by rw [← add_field _ _ 3 (by omega)]; exact hc 3 _ rfl, by rw [← add_field _ _ 4 (by omega)]; exact hc 4 _ rfl, by rw [← add_field _ _ 5 (by omega)]; exact hc 5 _ rfl, l5, g5⟩

/-! #### struct type 108 -/
structure S108 where
  f0 : ByteArray
  f1 : S29
def z108 : S108 := ⟨(⟨#[]⟩ : ByteArray), z29⟩
def k108 : Kd S108 := Kd.iso (Kd.pair Kd.string k29) (fun x : S108 => (x.f0, x.f1))
theorem k108_open {w : World} {x : S108} {cs : List Value} (h : k108.K w x cs) : ∃ A6 c6, cs = [.string x.f0, .int .i64 x.f1.f0, .int .i64 x.f1.f1, .int .i64 x.f1.f2, .int .i64 x.f1.f3.f0, .int .i64 x.f1.f3.f1, .slice A6 x.f1.f4.length c6] ∧ x.f1.f4.length ≤ c6 ∧ k26.C w A6 x.f1.f4.length x.f1.f4 := by
  obtain ⟨_, _, rfl, rfl, s1⟩ := h
  obtain ⟨A6, c6, rfl, l6, g6⟩ := k29_open s1
  exact ⟨A6, c6, rfl, l6, g6⟩
theorem k108_openM {w : World} {base : Nat} {ok : Nat → Prop} {x : S108} {cs : List Value} (h : k108.M w base ok x cs) : ∃ v6, cs = [.string x.f0, .int .i64 x.f1.f0, .int .i64 x.f1.f1, .int .i64 x.f1.f2, .int .i64 x.f1.f3.f0, .int .i64 x.f1.f3.f1, v6] ∧ k26.R 26 w base ok v6 x.f1.f4 := by
  obtain ⟨_, _, rfl, rfl, s1⟩ := h
  obtain ⟨v6, rfl, g6⟩ := k29_openM s1
  exact ⟨v6, rfl, g6⟩
theorem k108_mk (w : World) (x : S108) {A6 : Option Addr} {c6 : Nat} (l6 : x.f1.f4.length ≤ c6) (g6 : k26.C w A6 x.f1.f4.length x.f1.f4) : k108.K w x [.string x.f0, .int .i64 x.f1.f0, .int .i64 x.f1.f1, .int .i64 x.f1.f2, .int .i64 x.f1.f3.f0, .int .i64 x.f1.f3.f1, .slice A6 x.f1.f4.length c6] := ⟨[.string x.f0], [.int .i64 x.f1.f0, .int .i64 x.f1.f1, .int .i64 x.f1.f2, .int .i64 x.f1.f3.f0, .int .i64 x.f1.f3.f1, .slice A6 x.f1.f4.length c6], rfl, rfl, (k29_mk w x.f1 l6 g6)⟩
theorem k108_mkM (w : World) (base : Nat) (ok : Nat → Prop) (x : S108) {v6 : Value} (g6 : k26.R 26 w base ok v6 x.f1.f4) : k108.M w base ok x [.string x.f0, .int .i64 x.f1.f0, .int .i64 x.f1.f1, .int .i64 x.f1.f2, .int .i64 x.f1.f3.f0, .int .i64 x.f1.f3.f1, v6] := ⟨[.string x.f0], [.int .i64 x.f1.f0, .int .i64 x.f1.f1, .int .i64 x.f1.f2, .int .i64 x.f1.f3.f0, .int .i64 x.f1.f3.f1, v6], rfl, rfl, (k29_mkM w base ok x.f1 g6)⟩
def rd_T108 (xs : List S108) (i : Int) : S108 := xs.getD i.toNat z108
theorem at_T108 {w : World} {A : Option Addr} {n : Nat} {xs : List S108} (h : Kd.C k108 w A n xs) (i : Int) (h0 : 0 ≤ i) (h1 : i < n) : ∃ ad A6 c6, A = some ad ∧ w.cell? (ad.add (i.toNat * 7)) = some (.string (rd_T108 xs i).f0) ∧ w.cell? ⟨(ad.add (i.toNat * 7)).block, (ad.add (i.toNat * 7)).off + 1, none⟩ = some (.int .i64 (rd_T108 xs i).f1.f0) ∧ w.cell? ⟨(ad.add (i.toNat * 7)).block, (ad.add (i.toNat * 7)).off + 2, none⟩ = some (.int .i64 (rd_T108 xs i).f1.f1) ∧ w.cell? ⟨(ad.add (i.toNat * 7)).block, (ad.add (i.toNat * 7)).off + 3, none⟩ = some (.int .i64 (rd_T108 xs i).f1.f2) ∧ w.cell? ⟨(ad.add (i.toNat * 7)).block, (ad.add (i.toNat * 7)).off + 4, none⟩ = some (.int .i64 (rd_T108 xs i).f1.f3.f0) ∧ w.cell? ⟨(ad.add (i.toNat * 7)).block, (ad.add (i.toNat * 7)).off + 5, none⟩ = some (.int .i64 (rd_T108 xs i).f1.f3.f1) ∧ w.cell? ⟨(ad.add (i.toNat * 7)).block, (ad.add (i.toNat * 7)).off + 6, none⟩ = some (.slice A6 (rd_T108 xs i).f1.f4.length c6) ∧ (rd_T108 xs i).f1.f4.length ≤ c6 ∧ k26.C w A6 (rd_T108 xs i).f1.f4.length (rd_T108 xs i).f1.f4 := by
  obtain ⟨ad, c, e, _, hK, hc0⟩ := Kd.C_get h z108 i h0 h1
  have hc : ∀ j u, c[j]? = some u → w.cell? (ad.add (i.toNat * 7 + j)) = some u := hc0
  obtain ⟨A6, c6, rfl, l6, g6⟩ := k108_open hK
  exact ⟨ad, A6, c6, e, hc 0 _ rfl, by rw [← add_field _ _ 1 (by omega)]; exact hc 1 _ rfl, by rw [← add_field _ _ 2 (by omega)]; exact hc 2 _ rfl, by rw [← add_field _ _ 3 (by omega)]; exact hc 3 _ rfl, by rw [← add_field _ _ 4 (by omega)]; exact hc 4 _ rfl, by rw [← add_field _ _ 5 (by omega)]; exact hc 5 _ rfl, by rw [← add_field _ _ 6 (by omega)]; exact hc 6 _ rfl, l6, g6⟩

def rd_L8 (xs : List (List S108)) (i : Int) : (List S108) := xs.getD i.toNat ([] : List S108)
theorem at_L8 {w : World} {A : Option Addr} {n : Nat} {xs : List (List S108)} (h : Kd.C (Kd.slice 108 k108) w A n xs) (i : Int) (h0 : 0 ≤ i) (h1 : i < n) : ∃ ad A0 c0, A = some ad ∧ w.cell? (ad.add i.toNat) = some (.slice A0 (rd_L8 xs i).length c0) ∧ (rd_L8 xs i).length ≤ c0 ∧ k108.C w A0 (rd_L8 xs i).length (rd_L8 xs i) := by
  obtain ⟨ad, c, e, _, hK, hc0⟩ := Kd.C_get h ([] : List S108) i h0 h1
  have hc : ∀ j u, c[j]? = some u → w.cell? (ad.add (i.toNat * 1 + j)) = some u := hc0
  obtain ⟨A0, c0, rfl, l0, g0⟩ := hK
  exact ⟨ad, A0, c0, e, by have hq := hc 0 _ rfl; rwa [Nat.mul_one, Nat.add_zero] at hq, l0, g0⟩

/-! #### struct type 37 -/
structure S37 where
  f0 : ByteArray
  f1 : ByteArray
  f2 : ByteArray
  f3 : Int
def z37 : S37 := ⟨(⟨#[]⟩ : ByteArray), (⟨#[]⟩ : ByteArray), (⟨#[]⟩ : ByteArray), (0 : Int)⟩
def k37 : Kd S37 := Kd.iso (Kd.pair Kd.string (Kd.pair Kd.string (Kd.pair Kd.string (Kd.int .i64)))) (fun x : S37 => (x.f0, x.f1, x.f2, x.f3))
theorem k37_open {w : World} {x : S37} {cs : List Value} (h : k37.K w x cs) : cs = [.string x.f0, .string x.f1, .string x.f2, .int .i64 x.f3] := by
  obtain ⟨_, _, rfl, rfl, ⟨_, _, rfl, rfl, ⟨_, _, rfl, rfl, rfl⟩⟩⟩ := h
  exact rfl
theorem k37_openM {w : World} {base : Nat} {ok : Nat → Prop} {x : S37} {cs : List Value} (h : k37.M w base ok x cs) : cs = [.string x.f0, .string x.f1, .string x.f2, .int .i64 x.f3] := by
  obtain ⟨_, _, rfl, rfl, ⟨_, _, rfl, rfl, ⟨_, _, rfl, rfl, rfl⟩⟩⟩ := h
  exact rfl
theorem k37_mk (w : World) (x : S37)  : k37.K w x [.string x.f0, .string x.f1, .string x.f2, .int .i64 x.f3] := ⟨[.string x.f0], [.string x.f1, .string x.f2, .int .i64 x.f3], rfl, rfl, ⟨[.string x.f1], [.string x.f2, .int .i64 x.f3], rfl, rfl, ⟨[.string x.f2], [.int .i64 x.f3], rfl, rfl, rfl⟩⟩⟩
theorem k37_mkM (w : World) (base : Nat) (ok : Nat → Prop) (x : S37)  : k37.M w base ok x [.string x.f0, .string x.f1, .string x.f2, .int .i64 x.f3] := ⟨[.string x.f0], [.string x.f1, .string x.f2, .int .i64 x.f3], rfl, rfl, ⟨[.string x.f1], [.string x.f2, .int .i64 x.f3], rfl, rfl, ⟨[.string x.f2], [.int .i64 x.f3], rfl, rfl, rfl⟩⟩⟩
def rd_T37 (xs : List S37) (i : Int) : S37 := xs.getD i.toNat z37
theorem at_T37 {w : World} {A : Option Addr} {n : Nat} {xs : List S37} (h : Kd.C k37 w A n xs) (i : Int) (h0 : 0 ≤ i) (h1 : i < n) : ∃ ad , A = some ad ∧ w.cell? (ad.add (i.toNat * 4)) = some (.string (rd_T37 xs i).f0) ∧ w.cell? ⟨(ad.add (i.toNat * 4)).block, (ad.add (i.toNat * 4)).off + 1, none⟩ = some (.string (rd_T37 xs i).f1) ∧ w.cell? ⟨(ad.add (i.toNat * 4)).block, (ad.add (i.toNat * 4)).off + 2, none⟩ = some (.string (rd_T37 xs i).f2) ∧ w.cell? ⟨(ad.add (i.toNat * 4)).block, (ad.add (i.toNat * 4)).off + 3, none⟩ = some (.int .i64 (rd_T37 xs i).f3) := by
  obtain ⟨ad, c, e, _, hK, hc0⟩ := Kd.C_get h z37 i h0 h1
  have hc : ∀ j u, c[j]? = some u → w.cell? (ad.add (i.toNat * 4 + j)) = some u := hc0
  obtain rfl := k37_open hK
  exact ⟨ad, e, hc 0 _ rfl, by rw [← add_field _ _ 1 (by omega)]; exact hc 1 _ rfl, by rw [← add_field _ _ 2 (by omega)]; exact hc 2 _ rfl, by rw [← add_field _ _ 3 (by omega)]; exact hc 3 _ rfl⟩

/-! #### struct type 55 -/
structure S55 where
  f0 : Int
  f1 : Int
  f2 : ByteArray
def z55 : S55 := ⟨(0 : Int), (0 : Int), (⟨#[]⟩ : ByteArray)⟩
def k55 : Kd S55 := Kd.iso (Kd.pair (Kd.int .i64) (Kd.pair (Kd.int .i64) Kd.string)) (fun x : S55 => (x.f0, x.f1, x.f2))
theorem k55_open {w : World} {x : S55} {cs : List Value} (h : k55.K w x cs) : cs = [.int .i64 x.f0, .int .i64 x.f1, .string x.f2] := by
  obtain ⟨_, _, rfl, rfl, ⟨_, _, rfl, rfl, rfl⟩⟩ := h
  exact rfl
theorem k55_openM {w : World} {base : Nat} {ok : Nat → Prop} {x : S55} {cs : List Value} (h : k55.M w base ok x cs) : cs = [.int .i64 x.f0, .int .i64 x.f1, .string x.f2] := by
  obtain ⟨_, _, rfl, rfl, ⟨_, _, rfl, rfl, rfl⟩⟩ := h
  exact rfl
theorem k55_mk (w : World) (x : S55)  : k55.K w x [.int .i64 x.f0, .int .i64 x.f1, .string x.f2] := ⟨[.int .i64 x.f0], [.int .i64 x.f1, .string x.f2], rfl, rfl, ⟨[.int .i64 x.f1], [.string x.f2], rfl, rfl, rfl⟩⟩
theorem k55_mkM (w : World) (base : Nat) (ok : Nat → Prop) (x : S55)  : k55.M w base ok x [.int .i64 x.f0, .int .i64 x.f1, .string x.f2] := ⟨[.int .i64 x.f0], [.int .i64 x.f1, .string x.f2], rfl, rfl, ⟨[.int .i64 x.f1], [.string x.f2], rfl, rfl, rfl⟩⟩
def rd_T55 (xs : List S55) (i : Int) : S55 := xs.getD i.toNat z55
theorem at_T55 {w : World} {A : Option Addr} {n : Nat} {xs : List S55} (h : Kd.C k55 w A n xs) (i : Int) (h0 : 0 ≤ i) (h1 : i < n) : ∃ ad , A = some ad ∧ w.cell? (ad.add (i.toNat * 3)) = some (.int .i64 (rd_T55 xs i).f0) ∧ w.cell? ⟨(ad.add (i.toNat * 3)).block, (ad.add (i.toNat * 3)).off + 1, none⟩ = some (.int .i64 (rd_T55 xs i).f1) ∧ w.cell? ⟨(ad.add (i.toNat * 3)).block, (ad.add (i.toNat * 3)).off + 2, none⟩ = some (.string (rd_T55 xs i).f2) := by
  obtain ⟨ad, c, e, _, hK, hc0⟩ := Kd.C_get h z55 i h0 h1
  have hc : ∀ j u, c[j]? = some u → w.cell? (ad.add (i.toNat * 3 + j)) = some u := hc0
  obtain rfl := k55_open hK
  exact ⟨ad, e, hc 0 _ rfl, by rw [← add_field _ _ 1 (by omega)]; exact hc 1 _ rfl, by rw [← add_field _ _ 2 (by omega)]; exact hc 2 _ rfl⟩

def rd_L11 (xs : List (List S55)) (i : Int) : (List S55) := xs.getD i.toNat ([] : List S55)
theorem at_L11 {w : World} {A : Option Addr} {n : Nat} {xs : List (List S55)} (h : Kd.C (Kd.slice 55 k55) w A n xs) (i : Int) (h0 : 0 ≤ i) (h1 : i < n) : ∃ ad A0 c0, A = some ad ∧ w.cell? (ad.add i.toNat) = some (.slice A0 (rd_L11 xs i).length c0) ∧ (rd_L11 xs i).length ≤ c0 ∧ k55.C w A0 (rd_L11 xs i).length (rd_L11 xs i) := by
  obtain ⟨ad, c, e, _, hK, hc0⟩ := Kd.C_get h ([] : List S55) i h0 h1
  have hc : ∀ j u, c[j]? = some u → w.cell? (ad.add (i.toNat * 1 + j)) = some u := hc0
  obtain ⟨A0, c0, rfl, l0, g0⟩ := hK
  exact ⟨ad, A0, c0, e, by have hq := hc 0 _ rfl; rwa [Nat.mul_one, Nat.add_zero] at hq, l0, g0⟩

/-! #### struct type 48 -/
structure S48 where
  f0 : Int
  f1 : Int
  f2 : Int
  f3 : Int
  f4 : (List S55)
  f5 : (List Int)
def z48 : S48 := ⟨(0 : Int), (0 : Int), (0 : Int), (0 : Int), ([] : List S55), ([] : List Int)⟩
def k48 : Kd S48 := Kd.iso (Kd.pair (Kd.int .i64) (Kd.pair (Kd.int .i64) (Kd.pair (Kd.int .i64) (Kd.pair (Kd.int .i64) (Kd.pair (Kd.slice 55 k55) (Kd.slice 3 (Kd.int .i64))))))) (fun x : S48 => (x.f0, x.f1, x.f2, x.f3, x.f4, x.f5))
theorem k48_open {w : World} {x : S48} {cs : List Value} (h : k48.K w x cs) : ∃ A4 c4 A5 c5, cs = [.int .i64 x.f0, .int .i64 x.f1, .int .i64 x.f2, .int .i64 x.f3, .slice A4 x.f4.length c4, .slice A5 x.f5.length c5] ∧ x.f4.length ≤ c4 ∧ k55.C w A4 x.f4.length x.f4 ∧ x.f5.length ≤ c5 ∧ (Kd.int .i64).C w A5 x.f5.length x.f5 := by
  obtain ⟨_, _, rfl, rfl, ⟨_, _, rfl, rfl, ⟨_, _, rfl, rfl, ⟨_, _, rfl, rfl, ⟨_, _, rfl, ⟨A4, c4, rfl, l4, g4⟩, ⟨A5, c5, rfl, l5, g5⟩⟩⟩⟩⟩⟩ := h
  exact ⟨A4, c4, A5, c5, rfl, l4, g4, l5, g5⟩
theorem k48_openM {w : World} {base : Nat} {ok : Nat → Prop} {x : S48} {cs : List Value} (h : k48.M w base ok x cs) : ∃ v4 v5, cs = [.int .i64 x.f0, .int .i64 x.f1, .int .i64 x.f2, .int .i64 x.f3, v4, v5] ∧ k55.R 55 w base ok v4 x.f4 ∧ (Kd.int .i64).R 3 w base ok v5 x.f5 := by
  obtain ⟨_, _, rfl, rfl, ⟨_, _, rfl, rfl, ⟨_, _, rfl, rfl, ⟨_, _, rfl, rfl, ⟨_, _, rfl, ⟨v4, rfl, g4⟩, ⟨v5, rfl, g5⟩⟩⟩⟩⟩⟩ := h
  exact ⟨v4, v5, rfl, g4, g5⟩
theorem k48_mk (w : World) (x : S48) {A4 : Option Addr} {c4 : Nat} (l4 : x.f4.length ≤ c4) (g4 : k55.C w A4 x.f4.length x.f4) {A5 : Option Addr} {c5 : Nat} (l5 : x.f5.length ≤ c5) (g5 : (Kd.int .i64).C w A5 x.f5.length x.f5) : k48.K w x [.int .i64 x.f0, .int .i64 x.f1, .int .i64 x.f2, .int .i64 x.f3, .slice A4 x.f4.length c4, .slice A5 x.f5.length c5] := ⟨[.int .i64 x.f0], [.int .i64 x.f1, .int .i64 x.f2, .int .i64 x.f3, .slice A4 x.f4.length c4, .slice A5 x.f5.length c5], rfl, rfl, ⟨[.int .i64 x.f1], [.int .i64 x.f2, .int .i64 x.f3, .slice A4 x.f4.length c4, .slice A5 x.f5.length c5], rfl, rfl, ⟨[.int .i64 x.f2], [.int .i64 x.f3, .slice A4 x.f4.length c4, .slice A5 x.f5.length c5], rfl, rfl, ⟨[.int .i64 x.f3], [.slice A4 x.f4.length c4, .slice A5 x.f5.length c5], rfl, rfl, ⟨[.slice A4 x.f4.length c4], [.slice A5 x.f5.length c5], rfl, ⟨A4, c4, rfl, l4, g4⟩, ⟨A5, c5, rfl, l5, g5⟩⟩⟩⟩⟩⟩
theorem k48_mkM (w : World) (base : Nat) (ok : Nat → Prop) (x : S48) {v4 : Value} (g4 : k55.R 55 w base ok v4 x.f4) {v5 : Value} (g5 : (Kd.int .i64).R 3 w base ok v5 x.f5) : k48.M w base ok x [.int .i64 x.f0, .int .i64 x.f1, .int .i64 x.f2, .int .i64 x.f3, v4, v5] := ⟨[.int .i64 x.f0], [.int .i64 x.f1, .int .i64 x.f2, .int .i64 x.f3, v4, v5], rfl, rfl, ⟨[.int .i64 x.f1], [.int .i64 x.f2, .int .i64 x.f3, v4, v5], rfl, rfl, ⟨[.int .i64 x.f2], [.int .i64 x.f3, v4, v5], rfl, rfl, ⟨[.int .i64 x.f3], [v4, v5], rfl, rfl, ⟨[v4], [v5], rfl, ⟨v4, rfl, g4⟩, ⟨v5, rfl, g5⟩⟩⟩⟩⟩⟩
def rd_T48 (xs : List S48) (i : Int) : S48 := xs.getD i.toNat z48
theorem at_T48 {w : World} {A : Option Addr} {n : Nat} {xs : List S48} (h : Kd.C k48 w A n xs) (i : Int) (h0 : 0 ≤ i) (h1 : i < n) : ∃ ad A4 c4 A5 c5, A = some ad ∧ w.cell? (ad.add (i.toNat * 6)) = some (.int .i64 (rd_T48 xs i).f0) ∧ w.cell? ⟨(ad.add (i.toNat * 6)).block, (ad.add (i.toNat * 6)).off + 1, none⟩ = some (.int .i64 (rd_T48 xs i).f1) ∧ w.cell? ⟨(ad.add (i.toNat * 6)).block, (ad.add (i.toNat * 6)).off + 2, none⟩ = some (.int .i64 (rd_T48 xs i).f2) ∧ w.cell? ⟨(ad.add (i.toNat * 6)).block, (ad.add (i.toNat * 6)).off + 3, none⟩ = some (.int .i64 (rd_T48 xs i).f3) ∧ w.cell? ⟨(ad.add (i.toNat * 6)).block, (ad.add (i.toNat * 6)).off + 4, none⟩ = some (.slice A4 (rd_T48 xs i).f4.length c4) ∧ w.cell? ⟨(ad.add (i.toNat * 6)).block, (ad.add (i.toNat * 6)).off + 5, none⟩ = some (.slice A5 (rd_T48 xs i).f5.length c5) ∧ (rd_T48 xs i).f4.length ≤ c4 ∧ k55.C w A4 (rd_T48 xs i).f4.length (rd_T48 xs i).f4 ∧ (rd_T48 xs i).f5.length ≤ c5 ∧ (Kd.int .i64).C w A5 (rd_T48 xs i).f5.length (rd_T48 xs i).f5 := by
  obtain ⟨ad, c, e, _, hK, hc0⟩ := Kd.C_get h z48 i h0 h1
  have hc : ∀ j u, c[j]? = some u → w.cell? (ad.add (i.toNat * 6 + j)) = some u := hc0
  obtain ⟨A4, c4, A5, c5, rfl, l4, g4, l5, g5⟩ := k48_open hK
  exact ⟨ad, A4, c4, A5, c5, e, hc 0 _ rfl, by rw [← add_field _ _ 1 (by omega)]; exact hc 1 _ rfl, by rw [← add_field _ _ 2 (by omega)]; exact hc 2 _ rfl, by rw [← add_field _ _ 3 (by omega)]; exact hc 3 _ rfl, by rw [← add_field _ _ 4 (by omega)]; exact hc 4 _ rfl, by rw [← add_field _ _ 5 (by omega)]; exact hc 5 _ rfl, l4, g4, l5, g5⟩

/-! #### struct type 121 -/
structure S121 where
  f0 : Int
def z121 : S121 := ⟨(0 : Int)⟩
def k121 : Kd S121 := Kd.iso (Kd.int .i64) (fun x : S121 => x.f0)
theorem k121_open {w : World} {x : S121} {cs : List Value} (h : k121.K w x cs) : cs = [.int .i64 x.f0] := by
  obtain rfl := h
  exact rfl
theorem k121_openM {w : World} {base : Nat} {ok : Nat → Prop} {x : S121} {cs : List Value} (h : k121.M w base ok x cs) : cs = [.int .i64 x.f0] := by
  obtain rfl := h
  exact rfl
theorem k121_mk (w : World) (x : S121)  : k121.K w x [.int .i64 x.f0] := rfl
theorem k121_mkM (w : World) (base : Nat) (ok : Nat → Prop) (x : S121)  : k121.M w base ok x [.int .i64 x.f0] := rfl
def rd_T121 (xs : List S121) (i : Int) : S121 := xs.getD i.toNat z121
theorem at_T121 {w : World} {A : Option Addr} {n : Nat} {xs : List S121} (h : Kd.C k121 w A n xs) (i : Int) (h0 : 0 ≤ i) (h1 : i < n) : ∃ ad , A = some ad ∧ w.cell? (ad.add i.toNat) = some (.int .i64 (rd_T121 xs i).f0) := by
  obtain ⟨ad, c, e, _, hK, hc0⟩ := Kd.C_get h z121 i h0 h1
  have hc : ∀ j u, c[j]? = some u → w.cell? (ad.add (i.toNat * 1 + j)) = some u := hc0
  obtain rfl := k121_open hK
  exact ⟨ad, e, by have hq := hc 0 _ rfl; rwa [Nat.mul_one, Nat.add_zero] at hq⟩

def rd_L14 (xs : List (List S37)) (i : Int) : (List S37) := xs.getD i.toNat ([] : List S37)
theorem at_L14 {w : World} {A : Option Addr} {n : Nat} {xs : List (List S37)} (h : Kd.C (Kd.slice 37 k37) w A n xs) (i : Int) (h0 : 0 ≤ i) (h1 : i < n) : ∃ ad A0 c0, A = some ad ∧ w.cell? (ad.add i.toNat) = some (.slice A0 (rd_L14 xs i).length c0) ∧ (rd_L14 xs i).length ≤ c0 ∧ k37.C w A0 (rd_L14 xs i).length (rd_L14 xs i) := by
  obtain ⟨ad, c, e, _, hK, hc0⟩ := Kd.C_get h ([] : List S37) i h0 h1
  have hc : ∀ j u, c[j]? = some u → w.cell? (ad.add (i.toNat * 1 + j)) = some u := hc0
  obtain ⟨A0, c0, rfl, l0, g0⟩ := hK
  exact ⟨ad, A0, c0, e, by have hq := hc 0 _ rfl; rwa [Nat.mul_one, Nat.add_zero] at hq, l0, g0⟩

def rd_L15 (xs : List (List ByteArray)) (i : Int) : (List ByteArray) := xs.getD i.toNat ([] : List ByteArray)
theorem at_L15 {w : World} {A : Option Addr} {n : Nat} {xs : List (List ByteArray)} (h : Kd.C (Kd.slice 9 Kd.string) w A n xs) (i : Int) (h0 : 0 ≤ i) (h1 : i < n) : ∃ ad A0 c0, A = some ad ∧ w.cell? (ad.add i.toNat) = some (.slice A0 (rd_L15 xs i).length c0) ∧ (rd_L15 xs i).length ≤ c0 ∧ Kd.string.C w A0 (rd_L15 xs i).length (rd_L15 xs i) := by
  obtain ⟨ad, c, e, _, hK, hc0⟩ := Kd.C_get h ([] : List ByteArray) i h0 h1
  have hc : ∀ j u, c[j]? = some u → w.cell? (ad.add (i.toNat * 1 + j)) = some u := hc0
  obtain ⟨A0, c0, rfl, l0, g0⟩ := hK
  exact ⟨ad, A0, c0, e, by have hq := hc 0 _ rfl; rwa [Nat.mul_one, Nat.add_zero] at hq, l0, g0⟩

/-! #### struct type 81 -/
structure S81 where
  f0 : S24
  f1 : S48
  f2 : Int
  f3 : Int
  f4 : Int
  f5 : (List ByteArray)
  f6 : (List Int)
  f7 : (List Int)
def z81 : S81 := ⟨z24, z48, (0 : Int), (0 : Int), (0 : Int), ([] : List ByteArray), ([] : List Int), ([] : List Int)⟩
def k81 : Kd S81 := Kd.iso (Kd.pair k24 (Kd.pair k48 (Kd.pair (Kd.int .i64) (Kd.pair (Kd.int .i64) (Kd.pair (Kd.int .i64) (Kd.pair (Kd.slice 9 Kd.string) (Kd.pair (Kd.slice 3 (Kd.int .i64)) (Kd.slice 3 (Kd.int .i64))))))))) (fun x : S81 => (x.f0, x.f1, x.f2, x.f3, x.f4, x.f5, x.f6, x.f7))
theorem k81_open {w : World} {x : S81} {cs : List Value} (h : k81.K w x cs) : ∃ A5 c5 A10 c10 A11 c11 A15 c15 A16 c16 A17 c17, cs = [.int .i64 x.f0.f0, .int .i64 x.f0.f1, .int .i64 x.f0.f2, .int .i64 x.f0.f3, .int .i64 x.f0.f4, .slice A5 x.f0.f5.length c5, .int .i64 x.f1.f0, .int .i64 x.f1.f1, .int .i64 x.f1.f2, .int .i64 x.f1.f3, .slice A10 x.f1.f4.length c10, .slice A11 x.f1.f5.length c11, .int .i64 x.f2, .int .i64 x.f3, .int .i64 x.f4, .slice A15 x.f5.length c15, .slice A16 x.f6.length c16, .slice A17 x.f7.length c17] ∧ x.f0.f5.length ≤ c5 ∧ (Kd.int .i64).C w A5 x.f0.f5.length x.f0.f5 ∧ x.f1.f4.length ≤ c10 ∧ k55.C w A10 x.f1.f4.length x.f1.f4 ∧ x.f1.f5.length ≤ c11 ∧ (Kd.int .i64).C w A11 x.f1.f5.length x.f1.f5 ∧ x.f5.length ≤ c15 ∧ Kd.string.C w A15 x.f5.length x.f5 ∧ x.f6.length ≤ c16 ∧ (Kd.int .i64).C w A16 x.f6.length x.f6 ∧ x.f7.length ≤ c17 ∧ (Kd.int .i64).C w A17 x.f7.length x.f7 := by
  obtain ⟨_, _, rfl, s0, ⟨_, _, rfl, s6, ⟨_, _, rfl, rfl, ⟨_, _, rfl, rfl, ⟨_, _, rfl, rfl, ⟨_, _, rfl, ⟨A15, c15, rfl, l15, g15⟩, ⟨_, _, rfl, ⟨A16, c16, rfl, l16, g16⟩, ⟨A17, c17, rfl, l17, g17⟩⟩⟩⟩⟩⟩⟩⟩ := h
  obtain ⟨A5, c5, rfl, l5, g5⟩ := k24_open s0
  obtain ⟨A10, c10, A11, c11, rfl, l10, g10, l11, g11⟩ := k48_open s6
  exact ⟨A5, c5, A10, c10, A11, c11, A15, c15, A16, c16, A17, c17, rfl, l5, g5, l10, g10, l11, g11, l15, g15, l16, g16, l17, g17⟩
theorem k81_openM {w : World} {base : Nat} {ok : Nat → Prop} {x : S81} {cs : List Value} (h : k81.M w base ok x cs) : ∃ v5 v10 v11 v15 v16 v17, cs = [.int .i64 x.f0.f0, .int .i64 x.f0.f1, .int .i64 x.f0.f2, .int .i64 x.f0.f3, .int .i64 x.f0.f4, v5, .int .i64 x.f1.f0, .int .i64 x.f1.f1, .int .i64 x.f1.f2, .int .i64 x.f1.f3, v10, v11, .int .i64 x.f2, .int .i64 x.f3, .int .i64 x.f4, v15, v16, v17] ∧ (Kd.int .i64).R 3 w base ok v5 x.f0.f5 ∧ k55.R 55 w base ok v10 x.f1.f4 ∧ (Kd.int .i64).R 3 w base ok v11 x.f1.f5 ∧ Kd.string.R 9 w base ok v15 x.f5 ∧ (Kd.int .i64).R 3 w base ok v16 x.f6 ∧ (Kd.int .i64).R 3 w base ok v17 x.f7 := by
  obtain ⟨_, _, rfl, s0, ⟨_, _, rfl, s6, ⟨_, _, rfl, rfl, ⟨_, _, rfl, rfl, ⟨_, _, rfl, rfl, ⟨_, _, rfl, ⟨v15, rfl, g15⟩, ⟨_, _, rfl, ⟨v16, rfl, g16⟩, ⟨v17, rfl, g17⟩⟩⟩⟩⟩⟩⟩⟩ := h
  obtain ⟨v5, rfl, g5⟩ := k24_openM s0
  obtain ⟨v10, v11, rfl, g10, g11⟩ := k48_openM s6
  exact ⟨v5, v10, v11, v15, v16, v17, rfl, g5, g10, g11, g15, g16, g17⟩
theorem k81_mk (w : World) (x : S81) {A5 : Option Addr} {c5 : Nat} (l5 : x.f0.f5.length ≤ c5) (g5 : (Kd.int .i64).C w A5 x.f0.f5.length x.f0.f5) {A10 : Option Addr} {c10 : Nat} (l10 : x.f1.f4.length ≤ c10) (g10 : k55.C w A10 x.f1.f4.length x.f1.f4) {A11 : Option Addr} {c11 : Nat} (l11 : x.f1.f5.length ≤ c11) (g11 : (Kd.int .i64).C w A11 x.f1.f5.length x.f1.f5) {A15 : Option Addr} {c15 : Nat} (l15 : x.f5.length ≤ c15) (g15 : Kd.string.C w A15 x.f5.length x.f5) {A16 : Option Addr} {c16 : Nat} (l16 : x.f6.length ≤ c16) (g16 : (Kd.int .i64).C w A16 x.f6.length x.f6) {A17 : Option Addr} {c17 : Nat} (l17 : x.f7.length ≤ c17) (g17 : (Kd.int .i64).C w A17 x.f7.length x.f7) : k81.K w x [.int .i64 x.f0.f0, .int .i64 x.f0.f1, .int .i64 x.f0.f2, .int .i64 x.f0.f3, .int .i64 x.f0.f4, .slice A5 x.f0.f5.length c5, .int .i64 x.f1.f0, .int .i64 x.f1.f1, .int .i64 x.f1.f2, .int .i64 x.f1.f3, .slice A10 x.f1.f4.length c10, .slice A11 x.f1.f5.length c11, .int .i64 x.f2, .int .i64 x.f3, .int .i64 x.f4, .slice A15 x.f5.length c15, .slice A16 x.f6.length c16, .slice A17 x.f7.length c17] := ⟨[.int .i64 x.f0.f0, .int .i64 x.f0.f1, .int .i64 x.f0.f2, .int .i64 x.f0.f3, .int .i64 x.f0.f4, .slice A5 x.f0.f5.length c5], [.int .i64 x.f1.f0, .int .i64 x.f1.f1, .int .i64 x.f1.f2, .int .i64 x.f1.f3, .slice A10 x.f1.f4.length c10, .slice A11 x.f1.f5.length c11, .int .i64 x.f2, .int .i64 x.f3, .int .i64 x.f4, .slice A15 x.f5.length c15, .slice A16 x.f6.length c16, .slice A17 x.f7.length c17], rfl, (k24_mk w x.f0 l5 g5), ⟨[.int .i64 x.f1.f0, .int .i64 x.f1.f1, .int .i64 x.f1.f2, .int .i64 x.f1.f3, .slice A10 x.f1.f4.length c10, .slice A11 x.f1.f5.length c11], [.int .i64 x.f2, .int .i64 x.f3, .int .i64 x.f4, .slice A15 x.f5.length c15, .slice A16 x.f6.length c16, .slice A17 x.f7.length c17], rfl, (k48_mk w x.f1 l10 g10 l11 g11), ⟨[.int .i64 x.f2], [.int .i64 x.f3, .int .i64 x.f4, .slice A15 x.f5.length c15, .slice A16 x.f6.length c16, .slice A17 x.f7.length c17], rfl, rfl, ⟨[.int .i64 x.f3], [.int .i64 x.f4, .slice A15 x.f5.length c15, .slice A16 x.f6.length c16, .slice A17 x.f7.length c17], rfl, rfl, ⟨[.int .i64 x.f4], [.slice A15 x.f5.length c15, .slice A16 x.f6.length c16, .slice A17 x.f7.length c17], rfl, rfl, ⟨[.slice A15 x.f5.length c15], [.slice A16 x.f6.length c16, .slice A17 x.f7.length c17], rfl, ⟨A15, c15, rfl, l15, g15⟩, ⟨[.slice A16 x.f6.length c16], [.slice A17 x.f7.length c17], rfl, ⟨A16, c16, rfl, l16, g16⟩, ⟨A17, c17, rfl, l17, g17⟩⟩⟩⟩⟩⟩⟩⟩
theorem k81_mkM (w : World) (base : Nat) (ok : Nat → Prop) (x : S81) {v5 : Value} (g5 : (Kd.int .i64).R 3 w base ok v5 x.f0.f5) {v10 : Value} (g10 : k55.R 55 w base ok v10 x.f1.f4) {v11 : Value} (g11 : (Kd.int .i64).R 3 w base ok v11 x.f1.f5) {v15 : Value} (g15 : Kd.string.R 9 w base ok v15 x.f5) {v16 : Value} (g16 : (Kd.int .i64).R 3 w base ok v16 x.f6) {v17 : Value} (g17 : (Kd.int .i64).R 3 w base ok v17 x.f7) : k81.M w base ok x [.int .i64 x.f0.f0, .int .i64 x.f0.f1, .int .i64 x.f0.f2, .int .i64 x.f0.f3, .int .i64 x.f0.f4, v5, .int .i64 x.f1.f0, .int .i64 x.f1.f1, .int .i64 x.f1.f2, .int .i64 x.f1.f3, v10, v11, .int .i64 x.f2, .int .i64 x.f3, .int .i64 x.f4, v15, v16, v17] := ⟨[.int .i64 x.f0.f0, .int .i64 x.f0.f1, .int .i64 x.f0.f2, .int .i64 x.f0.f3, .int .i64 x.f0.f4, v5], [.int .i64 x.f1.f0, .int .i64 x.f1.f1, .int .i64 x.f1.f2, .int .i64 x.f1.f3, v10, v11, .int .i64 x.f2, .int .i64 x.f3, .int .i64 x.f4, v15, v16, v17], rfl, (k24_mkM w base ok x.f0 g5), ⟨[.int .i64 x.f1.f0, .int .i64 x.f1.f1, .int .i64 x.f1.f2, .int .i64 x.f1.f3, v10, v11], [.int .i64 x.f2, .int .i64 x.f3, .int .i64 x.f4, v15, v16, v17], rfl, (k48_mkM w base ok x.f1 g10 g11), ⟨[.int .i64 x.f2], [.int .i64 x.f3, .int .i64 x.f4, v15, v16, v17], rfl, rfl, ⟨[.int .i64 x.f3], [.int .i64 x.f4, v15, v16, v17], rfl, rfl, ⟨[.int .i64 x.f4], [v15, v16, v17], rfl, rfl, ⟨[v15], [v16, v17], rfl, ⟨v15, rfl, g15⟩, ⟨[v16], [v17], rfl, ⟨v16, rfl, g16⟩, ⟨v17, rfl, g17⟩⟩⟩⟩⟩⟩⟩⟩
def rd_T81 (xs : List S81) (i : Int) : S81 := xs.getD i.toNat z81
theorem at_T81 {w : World} {A : Option Addr} {n : Nat} {xs : List S81} (h : Kd.C k81 w A n xs) (i : Int) (h0 : 0 ≤ i) (h1 : i < n) : ∃ ad A5 c5 A10 c10 A11 c11 A15 c15 A16 c16 A17 c17, A = some ad ∧ w.cell? (ad.add (i.toNat * 18)) = some (.int .i64 (rd_T81 xs i).f0.f0) ∧ w.cell? ⟨(ad.add (i.toNat * 18)).block, (ad.add (i.toNat * 18)).off + 1, none⟩ = some (.int .i64 (rd_T81 xs i).f0.f1) ∧ w.cell? ⟨(ad.add (i.toNat * 18)).block, (ad.add (i.toNat * 18)).off + 2, none⟩ = some (.int .i64 (rd_T81 xs i).f0.f2) ∧ w.cell? ⟨(ad.add (i.toNat * 18)).block, (ad.add (i.toNat * 18)).off + 3, none⟩ = some (.int .i64 (rd_T81 xs i).f0.f3) ∧ w.cell? ⟨(ad.add (i.toNat * 18)).block, (ad.add (i.toNat * 18)).off + 4, none⟩ = some (.int .i64 (rd_T81 xs i).f0.f4) ∧ w.cell? ⟨(ad.add (i.toNat * 18)).block, (ad.add (i.toNat * 18)).off + 5, none⟩ = some (.slice A5 (rd_T81 xs i).f0.f5.length c5) ∧ w.cell? ⟨(ad.add (i.toNat * 18)).block, (ad.add (i.toNat * 18)).off + 6, none⟩ = some (.int .i64 (rd_T81 xs i).f1.f0) ∧ w.cell? ⟨(ad.add (i.toNat * 18)).block, (ad.add (i.toNat * 18)).off + 7, none⟩ = some (.int .i64 (rd_T81 xs i).f1.f1) ∧ w.cell? ⟨(ad.add (i.toNat * 18)).block, (ad.add (i.toNat * 18)).off + 8, none⟩ = some (.int .i64 (rd_T81 xs i).f1.f2) ∧ w.cell? ⟨(ad.add (i.toNat * 18)).block, (ad.add (i.toNat * 18)).off + 9, none⟩ = some (.int .i64 (rd_T81 xs i).f1.f3) ∧ w.cell? ⟨(ad.add (i.toNat * 18)).block, (ad.add (i.toNat * 18)).off + 10, none⟩ = some (.slice A10 (rd_T81 xs i).f1.f4.length c10) ∧ w.cell? ⟨(ad.add (i.toNat * 18)).block, (ad.add (i.toNat * 18)).off + 11, none⟩ = some (.slice A11 (rd_T81 xs i).f1.f5.length c11) ∧ w.cell? ⟨(ad.add (i.toNat * 18)).block, (ad.add (i.toNat * 18)).off + 12, none⟩ = some (.int .i64 (rd_T81 xs i).f2) ∧ w.cell? ⟨(ad.add (i.toNat * 18)).block, (ad.add (i.toNat * 18)).off + 13, none⟩ = some (.int .i64 (rd_T81 xs i).f3) ∧ w.cell? ⟨(ad.add (i.toNat * 18)).block, (ad.add (i.toNat * 18)).off + 14, none⟩ = some (.int .i64 (rd_T81 xs i).f4) ∧ w.cell? ⟨(ad.add (i.toNat * 18)).block, (ad.add (i.toNat * 18)).off + 15, none⟩ = some (.slice A15 (rd_T81 xs i).f5.length c15) ∧ w.cell? ⟨(ad.add (i.toNat * 18)).block, (ad.add (i.toNat * 18)).off + 16, none⟩ = some (.slice A16 (rd_T81 xs i).f6.length c16) ∧ w.cell? ⟨(ad.add (i.toNat * 18)).block, (ad.add (i.toNat * 18)).off + 17, none⟩ = some (.slice A17 (rd_T81 xs i).f7.length c17) ∧ (rd_T81 xs i).f0.f5.length ≤ c5 ∧ (Kd.int .i64).C w A5 (rd_T81 xs i).f0.f5.length (rd_T81 xs i).f0.f5 ∧ (rd_T81 xs i).f1.f4.length ≤ c10 ∧ k55.C w A10 (rd_T81 xs i).f1.f4.length (rd_T81 xs i).f1.f4 ∧ (rd_T81 xs i).f1.f5.length ≤ c11 ∧ (Kd.int .i64).C w A11 (rd_T81 xs i).f1.f5.length (rd_T81 xs i).f1.f5 ∧ (rd_T81 xs i).f5.length ≤ c15 ∧ Kd.string.C w A15 (rd_T81 xs i).f5.length (rd_T81 xs i).f5 ∧ (rd_T81 xs i).f6.length ≤ c16 ∧ (Kd.int .i64).C w A16 (rd_T81 xs i).f6.length (rd_T81 xs i).f6 ∧ (rd_T81 xs i).f7.length ≤ c17 ∧ (Kd.int .i64).C w A17 (rd_T81 xs i).f7.length (rd_T81 xs i).f7 := by
  obtain ⟨ad, c, e, _, hK, hc0⟩ := Kd.C_get h z81 i h0 h1
  have hc : ∀ j u, c[j]? = some u → w.cell? (ad.add (i.toNat * 18 + j)) = some u := hc0
  obtain ⟨A5, c5, A10, c10, A11, c11, A15, c15, A16, c16, A17, c17, rfl, l5, g5, l10, g10, l11, g11, l15, g15, l16, g16, l17, g17⟩ := k81_open hK
  exact ⟨ad, A5, c5, A10, c10, A11, c11, A15, c15, A16, c16, A17, c17, e, hc 0 _ rfl, by rw [← add_field _ _ 1 (by omega)]; exact hc 1 _ rfl, by rw [← add_field _ _ 2 (by omega)]; exact hc 2 _ rfl, by rw [← add_field _ _ 3 (by omega)]; exact hc 3 _ rfl, by rw [← add_field _ _ 4 (by omega)]; exact hc 4 _ rfl, by rw [← add_field _ _ 5 (by omega)]; exact hc 5 _ rfl, by rw [← add_field _ _ 6 (by omega)]; exact hc 6 _ rfl, by rw [← add_field _ _ 7 (by omega)]; exact hc 7 _ rfl, by rw [← add_field _ _ 8 (by omega)]; exact hc 8 _ rfl, by rw [← add_field _ _ 9 (by omega)]; exact hc 9 _ rfl, by rw [← add_field _ _ 10 (by omega)]; exact hc 10 _ rfl, by rw [← add_field _ _ 11 (by omega)]; exact hc 11 _ rfl, by rw [← add_field _ _ 12 (by omega)]; exact hc 12 _ rfl, by rw [← add_field _ _ 13 (by omega)]; exact hc 13 _ rfl, by rw [← add_field _ _ 14 (by omega)]; exact hc 14 _ rfl, by rw [← add_field _ _ 15 (by omega)]; exact hc 15 _ rfl, by rw [← add_field _ _ 16 (by omega)]; exact hc 16 _ rfl, by rw [← add_field _ _ 17 (by omega)]; exact hc 17 _ rfl, l5, g5, l10, g10, l11, g11, l15, g15, l16, g16, l17, g17⟩

def rd_L18 (xs : List (List Bool)) (i : Int) : (List Bool) := xs.getD i.toNat ([] : List Bool)
theorem at_L18 {w : World} {A : Option Addr} {n : Nat} {xs : List (List Bool)} (h : Kd.C (Kd.slice 4 Kd.bool) w A n xs) (i : Int) (h0 : 0 ≤ i) (h1 : i < n) : ∃ ad A0 c0, A = some ad ∧ w.cell? (ad.add i.toNat) = some (.slice A0 (rd_L18 xs i).length c0) ∧ (rd_L18 xs i).length ≤ c0 ∧ Kd.bool.C w A0 (rd_L18 xs i).length (rd_L18 xs i) := by
  obtain ⟨ad, c, e, _, hK, hc0⟩ := Kd.C_get h ([] : List Bool) i h0 h1
  have hc : ∀ j u, c[j]? = some u → w.cell? (ad.add (i.toNat * 1 + j)) = some u := hc0
  obtain ⟨A0, c0, rfl, l0, g0⟩ := hK
  exact ⟨ad, A0, c0, e, by have hq := hc 0 _ rfl; rwa [Nat.mul_one, Nat.add_zero] at hq, l0, g0⟩

end Go.Proofs.Ytkelibikjkgohaa.P

namespace Go.Proofs.Ytkelibikjkgohaa.Sp

abbrev Str := List UInt8

/-- a text out of its bytes; a text's bytes -/
def ofL (l : Str) : ByteArray := ⟨l.toArray⟩
def toL (s : ByteArray) : Str := s.data.toList
theorem toL_ofL (l : Str) : toL (ofL l) = l := by simp [toL, ofL]
theorem ofL_toL (s : ByteArray) : ofL (toL s) = s := by simp [toL, ofL]
theorem toL_length (s : ByteArray) : (toL s).length = s.size := Array.length_toList
theorem ofL_size (l : Str) : (ofL l).size = l.length := by simp [ofL, ByteArray.size]
theorem toL_get (s : ByteArray) (i : Nat) (h : i < s.size) : (toL s)[i]? = some s[i] := by
  have h' : i < s.data.size := h
  show s.data.toList[i]? = _
  rw [Array.getElem?_toList, Array.getElem?_eq_getElem h']; rfl
theorem extract_ofL (s : ByteArray) (i j : Nat) : s.extract i j = ofL (((toL s).drop i).take (j - i)) := by
  apply ByteArray.ext
  simp [ofL, toL, ByteArray.data_extract]
  apply Array.ext'
  rw [Array.toList_extract, List.extract_eq_take_drop]
theorem ofL_append (a b : Str) : ofL a ++ ofL b = ofL (a ++ b) := by
  apply ByteArray.ext
  simp [ofL, ByteArray.data_append]
theorem toL_append (a b : ByteArray) : toL (a ++ b) = toL a ++ toL b := by
  simp [toL, ByteArray.data_append]
theorem ofL_snoc (a : Str) (c : UInt8) : ofL a ++ (⟨#[c]⟩ : ByteArray) = ofL (a ++ [c]) := ofL_append a [c]
theorem drop_cons (s : ByteArray) (i : Nat) (h : i < s.size) : (toL s).drop i = s[i] :: (toL s).drop (i + 1) := by
  have hl := toL_length s
  rw [List.drop_eq_getElem_cons (by omega)]
  congr 1
theorem take_succ (s : ByteArray) (i : Nat) (h : i < s.size) : (toL s).take (i + 1) = (toL s).take i ++ [s[i]] := by
  have hl := toL_length s
  rw [List.take_add_one, toL_get s i h]; rfl

/-! ### chapter 1 -/
def isBit (c : UInt8) : Bool := c == 48 || c == 49

def clean : Str → Str
  | [] => []
  | c :: t => if c = 35 then [35] else if isBit c = true then c :: clean t else []

def common : Str → Str → Str
  | a :: s, b :: t => if a = b then a :: common s t else []
  | _, _ => []

/-- a is a front of b -/
def Front (a b : Str) : Prop := a <+: b

def bits (n : Int) : Nat → Str
  | 0 => []
  | k + 1 => (if (n / 2 ^ k) % 2 = 1 then (49 : UInt8) else 48) :: bits n k

def bitOf (c : UInt8) : Int := if c = 49 then 1 else 0

def numFrom (n : Int) : Str → Int
  | [] => n
  | c :: t => numFrom (2 * n + bitOf c) t

def num (s : Str) : Int := numFrom 0 s

def allBits (s : Str) : Bool := s.all isBit

def turned (c : UInt8) : UInt8 := if c = 48 then 49 else if c = 49 then 48 else if c = 35 then 48 else c

def turn : Str → Nat → Str
  | [], _ => []
  | c :: t, 0 => turned c :: t
  | c :: t, k + 1 => c :: turn t k

/-- bits, then the tail -/
def whole : Str → Bool
  | [] => false
  | [c] => c == 35
  | c :: d :: t => isBit c && whole (d :: t)

/-! ### clean -/
theorem clean_front (s : Str) : clean s <+: s := by
  induction s with
  | nil => exact List.prefix_refl _
  | cons c t ih =>
    unfold clean
    split
    · rename_i h; subst h; exact ⟨t, rfl⟩
    · split
      · obtain ⟨r, hr⟩ := ih; exact ⟨r, by simp [hr]⟩
      · exact ⟨_, rfl⟩

theorem clean_idem (s : Str) : clean (clean s) = clean s := by
  induction s with
  | nil => rfl
  | cons c t ih =>
    by_cases h : c = 35
    · subst h; simp [clean]
    · by_cases h2 : isBit c = true
      · simp [clean, h, h2, ih]
      · simp [clean, h, h2]

/-- a stream: a text that is its own clean front -/
def Stream (s : Str) : Prop := clean s = s

theorem stream_clean (s : Str) : Stream (clean s) := clean_idem s

theorem stream_cons {c : UInt8} {t : Str} (h : Stream (c :: t)) : (c = 35 ∧ t = []) ∨ (c ≠ 35 ∧ isBit c = true ∧ Stream t) := by
  unfold Stream clean at h
  by_cases e : c = 35
  · subst e; simp at h; exact .inl ⟨rfl, h⟩
  · by_cases e2 : isBit c = true
    · simp [e, e2] at h; exact .inr ⟨e, e2, h⟩
    · simp [e, e2] at h

theorem stream_front {s t : Str} (h : Stream t) (hf : s <+: t) : Stream s := by
  induction s generalizing t with
  | nil => rfl
  | cons c s ih =>
    cases t with
    | nil => exact absurd (List.prefix_nil.1 hf) (by simp)
    | cons d t =>
      obtain ⟨rfl, hf'⟩ := List.cons_prefix_cons.1 hf
      rcases stream_cons h with ⟨rfl, rfl⟩ | ⟨h1, h2, h3⟩
      · have := List.prefix_nil.1 hf'; subst this; rfl
      · have := ih h3 hf'
        unfold Stream clean; simp [h1, h2]; exact this

theorem stream_nil : Stream [] := rfl

/-! ### common -/
theorem common_left (a b : Str) : common a b <+: a := by
  induction a generalizing b with
  | nil => cases b <;> exact List.prefix_refl _
  | cons x s ih =>
    cases b with
    | nil => exact List.nil_prefix
    | cons y t =>
      unfold common
      split
      · exact List.cons_prefix_cons.2 ⟨rfl, ih t⟩
      · exact List.nil_prefix

theorem common_comm (a b : Str) : common a b = common b a := by
  induction a generalizing b with
  | nil => cases b <;> rfl
  | cons x s ih =>
    cases b with
    | nil => rfl
    | cons y t =>
      unfold common
      by_cases h : x = y
      · subst h; simp [ih]
      · have h' : ¬ y = x := fun e => h e.symm
        simp [h, h']

theorem common_right (a b : Str) : common a b <+: b := by rw [common_comm]; exact common_left b a

theorem common_of_front {a b : Str} (h : a <+: b) : common a b = a := by
  induction a generalizing b with
  | nil => cases b <;> rfl
  | cons x s ih =>
    cases b with
    | nil => exact absurd (List.prefix_nil.1 h) (by simp)
    | cons y t =>
      obtain ⟨rfl, h'⟩ := List.cons_prefix_cons.1 h
      simp [common, ih h']

theorem common_self (a : Str) : common a a = a := common_of_front (List.prefix_refl a)

theorem common_nil (a : Str) : common a [] = [] := by cases a <;> rfl
theorem nil_common (a : Str) : common [] a = [] := by cases a <;> rfl

theorem stream_common {a b : Str} (h : Stream a) : Stream (common a b) := stream_front h (common_left a b)

/-! ### bits and numbers -/
theorem bits_length (n : Int) (k : Nat) : (bits n k).length = k := by induction k with
  | zero => rfl
  | succ k ih => simp [bits, ih]

theorem bits_all (n : Int) (k : Nat) : allBits (bits n k) = true := by
  induction k with
  | zero => rfl
  | succ k ih =>
    unfold allBits at ih ⊢
    rw [bits, List.all_cons, ih]
    split <;> rfl

theorem numFrom_bits (n : Int) (k : Nat) (a : Int) : numFrom a (bits n k) = a * 2 ^ k + n % 2 ^ k := by
  induction k generalizing a with
  | zero => simp [bits, numFrom, Int.emod_one]
  | succ k ih =>
    have hb : bitOf (if (n / 2 ^ k) % 2 = 1 then (49 : UInt8) else 48) = (n / 2 ^ k) % 2 := by
      by_cases h : (n / 2 ^ k) % 2 = 1
      · simp [h, bitOf]
      · have : (n / 2 ^ k) % 2 = 0 := by omega
        simp [this, bitOf]
    rw [bits, numFrom, ih, hb]
    have h1 : n % 2 ^ (k + 1) = 2 ^ k * ((n / 2 ^ k) % 2) + n % 2 ^ k := by
      have hp : (2 : Int) ^ (k + 1) = 2 ^ k * 2 := by rw [Int.pow_succ]
      rw [hp]
      have h2 : (0 : Int) < 2 ^ k := Int.pow_pos (by decide)
      have e1 := Int.mul_ediv_add_emod n (2 ^ k)
      have e2 := Int.mul_ediv_add_emod (n / 2 ^ k) 2
      have e3 := Int.mul_ediv_add_emod n (2 ^ k * 2)
      have e4 : n / (2 ^ k * 2) = n / 2 ^ k / 2 := (Int.ediv_ediv_of_nonneg (by omega)).symm
      rw [e4] at e3
      have e5 : 2 ^ k * (n / 2 ^ k) = 2 ^ k * 2 * (n / 2 ^ k / 2) + 2 ^ k * (n / 2 ^ k % 2) := by
        rw [Int.mul_assoc, ← Int.mul_add, e2]
      omega
    rw [h1, Int.pow_succ, Int.add_mul]
    have e1 : 2 * a * 2 ^ k = a * (2 ^ k * 2) := by
      rw [Int.mul_comm 2 a, Int.mul_assoc, Int.mul_comm 2 ((2:Int) ^ k)]
    rw [e1, Int.mul_comm (n / 2 ^ k % 2)]
    omega

theorem num_bits (n : Int) (k : Nat) (h0 : 0 ≤ n) (h1 : n < 2 ^ k) : num (bits n k) = n := by
  unfold num; rw [numFrom_bits]; rw [Int.emod_eq_of_lt h0 h1]; omega

/-! ### sums -/
def sumStep (n : Int) (c : UInt8) : Int :=
  if (n / 32768 = 1) ↔ (c = 49) then (n * 2) % 65536 else ((((n * 2) % 65536).toNat ^^^ 4129 : Nat) : Int)

def sumFrom (n : Int) (s : Str) : Int := s.foldl sumStep n
def sum (s : Str) : Int := sumFrom 65535 s

theorem sumStep_range (n : Int) (c : UInt8) : 0 ≤ sumStep n c ∧ sumStep n c < 65536 := by
  unfold sumStep
  split
  · omega
  · have h : ((n * 2) % 65536).toNat ^^^ 4129 < 2 ^ 16 := Nat.xor_lt_two_pow (by omega) (by omega)
    omega

theorem sumFrom_range (n : Int) (s : Str) (h : 0 ≤ n ∧ n < 65536) : 0 ≤ sumFrom n s ∧ sumFrom n s < 65536 := by
  unfold sumFrom
  induction s generalizing n with
  | nil => exact h
  | cons c t ih => exact ih _ (sumStep_range n c)

theorem sum_range (s : Str) : 0 ≤ sum s ∧ sum s < 65536 := sumFrom_range _ s (by omega)

def wrap (b : Str) : Str := b ++ (bits (sum b) 16 ++ [35])

def opened (s : Str) : Str × Int :=
  if whole s = false then ([], 4) else
  if s.length < 17 then ([], 3) else
  if bits (sum (s.take (s.length - 17))) 16 = (s.drop (s.length - 17)).take 16 then (s.take (s.length - 17), 0) else ([], 5)

theorem whole_append (b : Str) (h : allBits b = true) : whole (b ++ [35]) = true := by
  induction b with
  | nil => rfl
  | cons c t ih =>
    unfold allBits at h ih
    rw [List.all_cons, Bool.and_eq_true] at h
    have := ih h.2
    cases t with
    | nil => simp [whole, h.1]
    | cons d t => simp only [List.cons_append] at this ⊢; rw [whole, h.1, this]; rfl

theorem allBits_append (a b : Str) : allBits (a ++ b) = (allBits a && allBits b) := by unfold allBits; exact List.all_append

theorem opened_wrap (b : Str) (h : allBits b = true) : opened (wrap b) = (b, 0) := by
  have hw : whole (wrap b) = true := by
    unfold wrap
    rw [← List.append_assoc]
    exact whole_append _ (by rw [allBits_append, h, bits_all]; rfl)
  have hl : (wrap b).length = b.length + 17 := by simp [wrap, bits_length]
  have ht : (wrap b).take ((wrap b).length - 17) = b := by rw [hl]; simp [wrap]
  have hd : ((wrap b).drop ((wrap b).length - 17)).take 16 = bits (sum b) 16 := by
    rw [hl]; simp only [Nat.add_sub_cancel]; unfold wrap
    rw [List.drop_left]
    exact List.take_left' (bits_length _ _)
  unfold opened
  rw [hw, if_neg (by simp), if_neg (by omega), ht, hd, if_pos rfl]

theorem whole_stream {s : Str} (h : whole s = true) : Stream s := by
  induction s with
  | nil => rfl
  | cons c t ih =>
    cases t with
    | nil => simp [whole] at h; subst h; rfl
    | cons d t =>
      rw [whole, Bool.and_eq_true] at h
      have h3 := ih h.2
      have hc : c ≠ 35 := by rintro rfl; simp [isBit] at h
      unfold Stream clean; simp only [if_neg hc, h.1, if_true]; rw [h3]

/-- a whole text cut short is none -/
theorem whole_front {s t : Str} (ht : whole t = true) (h : s <+: t) (hne : s ≠ t) : whole s = false := by
  induction s generalizing t with
  | nil => rfl
  | cons c s ih =>
    cases t with
    | nil => exact absurd (List.prefix_nil.1 h) (by simp)
    | cons d t =>
      obtain ⟨rfl, h'⟩ := List.cons_prefix_cons.1 h
      have hst : s ≠ t := fun e => hne (by rw [e])
      cases t with
      | nil => exact absurd (List.prefix_nil.1 h') hst
      | cons e t =>
        rw [whole, Bool.and_eq_true] at ht
        cases s with
        | nil => simp only [whole]; cases hh : (c == 35) with
          | false => rfl
          | true => have := eq_of_beq hh; subst this; simp [isBit] at ht
        | cons f s => rw [whole, ih ht.2 h' hst]; simp

/-! ### chapter 5: frames -/
abbrev Item := P.S26
abbrev Frame := P.S29
/-- N, Pi, E, G, First, Pairs -/
abbrev Conf := P.S24

def slots (c : Conf) : Int := c.f0 + c.f5.length

/-- what Check allows -/
structure ConfOk (c : Conf) : Prop where
  n : 6 ≤ c.f0 ∧ c.f0 ≤ 12
  e : 0 ≤ c.f2 ∧ c.f2 ≤ 100
  g : 0 ≤ c.f3 ∧ c.f3 ≤ 100
  pi : 4 * (c.f2 + c.f3 + 1) ≤ c.f1 ∧ c.f1 ≤ 10000
  first : 0 ≤ c.f4 ∧ c.f4 ≤ 65535
  len : c.f5.length ≤ 3
  pairs : ∀ a ∈ c.f5, -1 ≤ a ∧ a < c.f0

def valueB (i : Item) : Bool := (i.f0 == 1 && i.f1 == 0) || (i.f0 == 2 && (decide (0 ≤ i.f1) && decide (i.f1 ≤ 255)))
def emptyB (i : Item) : Bool := i.f0 == 0 && i.f1 == 0

def echoes (c : Conf) (kind slot : Int) : Int := if kind = 3 ∧ slot < c.f0 then slots c else 0

def payB (f : Frame) : Bool := if f.f0 = 3 then valueB f.f3 else emptyB f.f3

def frameCheck (c : Conf) (f : Frame) : Int :=
  if f.f2 < 0 ∨ f.f2 ≥ slots c ∨ f.f1 < 0 ∨ f.f1 > 65535 then 1 else
  if f.f0 < 1 ∨ f.f0 > 3 ∨ (f.f2 ≥ c.f0 ∧ f.f0 ≠ 3) then 6 else
  if payB f = false then 1 else
  if (f.f4.length : Int) ≠ echoes c f.f0 f.f2 then 2 else
  if f.f4.any (fun i => !emptyB i && !valueB i) = true then 1 else 0

def itemBits (i : Item) : Str := bits i.f0 2 ++ bits i.f1 8
def echoBits (l : List Item) : Str := l.flatMap itemBits
def body (f : Frame) : Str := bits f.f0 2 ++ (bits f.f1 16 ++ (bits f.f2 6 ++ (itemBits f.f3 ++ echoBits f.f4)))
def text (f : Frame) : Str := wrap (body f)

def readItem (s : Str) : Item := ⟨num (s.take 2), num ((s.drop 2).take 8)⟩
def readItems : Nat → Str → List Item
  | 0, _ => []
  | n + 1, s => readItem s :: readItems n (s.drop 10)

def zeroFrame : Frame := ⟨0, 0, 0, ⟨0, 0⟩, []⟩

def rawFrame (b : Str) : Frame := ⟨num (b.take 2), num ((b.drop 2).take 16), num ((b.drop 18).take 6), readItem (b.drop 24), readItems ((b.length - 34) / 10) (b.drop 34)⟩

def readBits (c : Conf) (b : Str) : Frame × Int :=
  if b.length < 34 then (zeroFrame, 3) else
  if ((b.length - 34 : Nat) : Int) ≠ 10 * echoes c (num (b.take 2)) (num ((b.drop 18).take 6)) then (zeroFrame, 2) else
  if frameCheck c (rawFrame b) ≠ 0 then (zeroFrame, frameCheck c (rawFrame b)) else (rawFrame b, 0)

def read (c : Conf) (s : Str) : Frame × Int :=
  if (opened s).2 ≠ 0 then (zeroFrame, (opened s).2) else readBits c (opened s).1

theorem itemBits_length (i : Item) : (itemBits i).length = 10 := by simp [itemBits, bits_length]
theorem echoBits_length (l : List Item) : (echoBits l).length = 10 * l.length := by
  unfold echoBits
  induction l with
  | nil => rfl
  | cons i l ih => simp [itemBits_length, ih]; omega
theorem allBits_item (i : Item) : allBits (itemBits i) = true := by unfold itemBits; rw [allBits_append, bits_all, bits_all]; rfl
theorem allBits_echo (l : List Item) : allBits (echoBits l) = true := by
  unfold echoBits
  induction l with
  | nil => rfl
  | cons i l ih => rw [List.flatMap_cons, allBits_append, allBits_item, ih]; rfl
theorem allBits_body (f : Frame) : allBits (body f) = true := by
  unfold body
  simp only [allBits_append, bits_all, allBits_item, allBits_echo]; rfl
theorem body_length (f : Frame) : (body f).length = 34 + 10 * f.f4.length := by
  unfold body; simp [bits_length, itemBits_length, echoBits_length]; omega
theorem text_length (f : Frame) : (text f).length = 51 + 10 * f.f4.length := by
  unfold text wrap; simp [bits_length, body_length]; omega

def itemRange (i : Item) : Prop := (0 ≤ i.f0 ∧ i.f0 < 4) ∧ (0 ≤ i.f1 ∧ i.f1 < 256)

theorem readItem_bits (i : Item) (h : itemRange i) (t : Str) : readItem (itemBits i ++ t) = i := by
  unfold readItem itemBits
  have e1 : List.take 2 (bits i.f0 2 ++ bits i.f1 8 ++ t) = bits i.f0 2 := by
    rw [List.append_assoc]; exact List.take_left' (bits_length _ _)
  have e2 : List.drop 2 (bits i.f0 2 ++ bits i.f1 8 ++ t) = bits i.f1 8 ++ t := by
    rw [List.append_assoc]; exact List.drop_left' (bits_length _ _)
  have e3 : List.take 8 (bits i.f1 8 ++ t) = bits i.f1 8 := List.take_left' (bits_length _ _)
  rw [e1, e2, e3, num_bits _ _ h.1.1 (by have := h.1.2; omega), num_bits _ _ h.2.1 (by have := h.2.2; omega)]

theorem readItems_bits (l : List Item) (h : ∀ i ∈ l, itemRange i) : readItems l.length (echoBits l) = l := by
  induction l with
  | nil => rfl
  | cons i l ih =>
    have e : echoBits (i :: l) = itemBits i ++ echoBits l := rfl
    rw [List.length_cons, readItems, e, readItem_bits i (h i (by simp)), List.drop_left' (itemBits_length i), ih (fun j hj => h j (by simp [hj]))]

theorem range_of_value {i : Item} (h : valueB i = true) : itemRange i := by
  unfold valueB at h; unfold itemRange
  simp only [Bool.or_eq_true, Bool.and_eq_true, beq_iff_eq, decide_eq_true_eq] at h
  rcases h with ⟨h1, h2⟩ | ⟨h1, h2, h3⟩ <;> omega
theorem range_of_empty {i : Item} (h : emptyB i = true) : itemRange i := by
  unfold emptyB at h; unfold itemRange
  simp only [Bool.and_eq_true, beq_iff_eq] at h
  omega

theorem rawFrame_body (f : Frame) (h0 : 0 ≤ f.f0 ∧ f.f0 < 4) (h1 : 0 ≤ f.f1 ∧ f.f1 < 65536) (h2 : 0 ≤ f.f2 ∧ f.f2 < 64) (h3 : itemRange f.f3) (h4 : ∀ i ∈ f.f4, itemRange i) : rawFrame (body f) = f := by
  have a1 : (body f).take 2 = bits f.f0 2 := List.take_left' (bits_length _ _)
  have a2 : (body f).drop 2 = bits f.f1 16 ++ (bits f.f2 6 ++ (itemBits f.f3 ++ echoBits f.f4)) := List.drop_left' (bits_length _ _)
  have a3 : (body f).drop 18 = bits f.f2 6 ++ (itemBits f.f3 ++ echoBits f.f4) := by
    rw [show (18 : Nat) = 2 + 16 from rfl, ← List.drop_drop, a2]; exact List.drop_left' (bits_length _ _)
  have a4 : (body f).drop 24 = itemBits f.f3 ++ echoBits f.f4 := by
    rw [show (24 : Nat) = 18 + 6 from rfl, ← List.drop_drop, a3]; exact List.drop_left' (bits_length _ _)
  have a5 : (body f).drop 34 = echoBits f.f4 := by
    rw [show (34 : Nat) = 24 + 10 from rfl, ← List.drop_drop, a4]; exact List.drop_left' (itemBits_length _)
  have a6 : ((body f).length - 34) / 10 = f.f4.length := by rw [body_length]; omega
  unfold rawFrame
  rw [a1, a2, a3, a4, a5, a6, List.take_left' (bits_length _ _), List.take_left' (bits_length _ _), readItem_bits _ h3, readItems_bits _ h4,
    num_bits _ _ h0.1 (by have := h0.2; omega), num_bits _ _ h1.1 (by have := h1.2; omega), num_bits _ _ h2.1 (by have := h2.2; omega)]

theorem slots_range {c : Conf} (h : ConfOk c) : 6 ≤ slots c ∧ slots c ≤ 15 := by
  unfold slots; have := h.n; have := h.len; omega

structure FrameOk (c : Conf) (f : Frame) : Prop where
  slot : 0 ≤ f.f2 ∧ f.f2 < slots c
  round : 0 ≤ f.f1 ∧ f.f1 ≤ 65535
  kind : 1 ≤ f.f0 ∧ f.f0 ≤ 3
  data : f.f2 ≥ c.f0 → f.f0 = 3
  pay : payB f = true
  len : (f.f4.length : Int) = echoes c f.f0 f.f2
  echo : ∀ i ∈ f.f4, emptyB i = true ∨ valueB i = true

theorem frameCheck_iff (c : Conf) (f : Frame) : frameCheck c f = 0 ↔ FrameOk c f := by
  unfold frameCheck
  constructor
  · intro h
    by_cases g1 : f.f2 < 0 ∨ f.f2 ≥ slots c ∨ f.f1 < 0 ∨ f.f1 > 65535
    · rw [if_pos g1] at h; exact absurd h (by decide)
    rw [if_neg g1] at h
    by_cases g2 : f.f0 < 1 ∨ f.f0 > 3 ∨ (f.f2 ≥ c.f0 ∧ f.f0 ≠ 3)
    · rw [if_pos g2] at h; exact absurd h (by decide)
    rw [if_neg g2] at h
    by_cases g3 : payB f = false
    · rw [if_pos g3] at h; exact absurd h (by decide)
    rw [if_neg g3] at h
    by_cases g4 : (f.f4.length : Int) ≠ echoes c f.f0 f.f2
    · rw [if_pos g4] at h; exact absurd h (by decide)
    rw [if_neg g4] at h
    by_cases g5 : f.f4.any (fun i => !emptyB i && !valueB i) = true
    · rw [if_pos g5] at h; exact absurd h (by decide)
    refine ⟨by omega, by omega, by omega, fun h => by omega, by simpa using g3, by omega, fun i hi => ?_⟩
    by_cases h1 : emptyB i = true
    · exact .inl h1
    · by_cases h2 : valueB i = true
      · exact .inr h2
      · exact absurd (List.any_eq_true.2 ⟨i, hi, by simp [h1, h2]⟩) g5
  · intro h
    have ⟨h1, h2, h3, h4, h5, h6, h7⟩ := h
    rw [if_neg (by omega), if_neg (by omega), if_neg (by simp [h5]), if_neg (by omega), if_neg]
    intro hh
    obtain ⟨i, hi, hb⟩ := List.any_eq_true.1 hh
    rcases h7 i hi with e | e <;> simp [e] at hb

theorem read_text {c : Conf} (hc : ConfOk c) {f : Frame} (h : FrameOk c f) : read c (text f) = (f, 0) := by
  have hs := slots_range hc
  have hf := (frameCheck_iff c f).2 h
  have ⟨g1, g2, g3, g4, g5, g6, g7⟩ := h
  have hp : itemRange f.f3 := by
    unfold payB at g5
    by_cases hk : f.f0 = 3
    · rw [if_pos hk] at g5; exact range_of_value g5
    · rw [if_neg hk] at g5; exact range_of_empty g5
  have he : ∀ i ∈ f.f4, itemRange i := fun i hi => (g7 i hi).elim range_of_empty range_of_value
  have hr := rawFrame_body f (by omega) (by omega) (by omega) hp he
  have ho : opened (text f) = (body f, 0) := opened_wrap _ (allBits_body f)
  unfold read
  rw [ho]
  simp only [ne_eq, not_true, if_false]
  unfold readBits
  have k1 : num ((body f).take 2) = f.f0 := congrArg (fun f : Frame => f.f0) hr
  have k2 : num (((body f).drop 18).take 6) = f.f2 := congrArg (fun f : Frame => f.f2) hr
  have hl := body_length f
  rw [if_neg (by omega), k1, k2, hr, hf, if_neg (by omega), if_neg (by simp)]
end Go.Proofs.Ytkelibikjkgohaa.Sp

namespace Go.Proofs.Ytkelibikjkgohaa.P
set_option linter.unusedVariables false
open Go.RowKit Go.Proofs.YtkelibikjkgohaaW.PrintWords Go.Proofs.YtkelibikjkgohaaW.PrintLast Go.Proofs.YtkelibikjkgohaaW.PrintMore

def sym_Clean.f (a0 : ByteArray) : Option ByteArray := if a0.size ≤ 4611686018427387904 then some (Sp.ofL (Sp.clean (Sp.toL a0))) else none

theorem clean_at (s : ByteArray) (pos : Nat) (h : pos < s.size) : Sp.clean ((Sp.toL s).drop pos) = if s[pos] = 35 then [35] else if Sp.isBit s[pos] = true then s[pos] :: Sp.clean ((Sp.toL s).drop (pos + 1)) else [] := by
  rw [Sp.drop_cons s pos h, Sp.clean]

theorem below_iter (w : World) (s : ByteArray) (pos : Nat) : Below w.heap.size w (w.iter s pos) := below_alloc (Below.refl _ _) _

theorem u8_int (c : UInt8) (n : Nat) (h : n < 256) : ((c.toNat : Int) = n) ↔ c = UInt8.ofNat n := by
  constructor
  · intro e
    apply UInt8.toNat_inj.1
    rw [UInt8.toNat_ofNat']
    omega
  · rintro rfl
    rw [UInt8.toNat_ofNat']
    omega

set_option maxHeartbeats 1000000 in
theorem sym_Clean.calls (a0 r : ByteArray) (w : World) (h : sym_Clean.f a0 = some r) :
    Calls Try.prog 99 #[.string a0] w fun e w' => e = .returned (.string r) ∧ Below w.heap.size w w' := by
  unfold sym_Clean.f at h
  split at h
  case isFalse => exact absurd h (by simp)
  rename_i hs
  obtain rfl := Option.some.inj h
  clear h
  go_enter Try.func99, Try.ntmps99
  go_wp2
  go_loopw [] (fun w' => ∃ pos : Nat, w' = w.iter a0 pos ∧ pos ≤ a0.size ∧ Hid (Sp.clean (Sp.toL a0) = (Sp.toL a0).take pos ++ Sp.clean ((Sp.toL a0).drop pos))) (fun w' => a0.size - w'.iterPos w.heap.size)
  case atStart => exact ⟨0, rfl, Nat.zero_le _, Lib.hid rfl⟩
  case round =>
    obtain ⟨pos, rfl, hp, HI⟩ := hrel
    by_cases hlt : pos < a0.size
    · have hnx : ∀ ty, (Instr.next (.pointer (some ⟨w.heap.size, 0, none⟩)) true ty).run Try.prog (w.iter a0 pos) = _ := fun ty => run_next_any w a0 pos ty hlt
      have hc := clean_at a0 pos hlt
      by_cases h35 : a0[pos] = 35
      · have hd : Utf8.decode a0 pos = (35, 1) := by rw [decode_ascii a0 pos hlt (by rw [h35]; decide), h35]; rfl
        rw [hd] at hnx
        have HC : Hid (Sp.clean (Sp.toL a0) = (Sp.toL a0).take (pos + 1)) := Lib.hid (by
          rw [HI.out, hc, if_pos h35, Sp.take_succ a0 pos hlt, h35])
        clear hc hd HI h35
        go_wp2
        go_ret
        exact ⟨by rw [HC.out, Sp.extract_ofL]; simp, below_iter _ _ _⟩
      by_cases hb : a0[pos] = 48 ∨ a0[pos] = 49
      · have hd : Utf8.decode a0 pos = (a0[pos].toNat, 1) := decode_ascii a0 pos hlt (by rcases hb with e | e <;> rw [e] <;> decide)
        have hbit : Sp.isBit a0[pos] = true := by rcases hb with e | e <;> rw [e] <;> rfl
        have HC : Hid (Sp.clean (Sp.toL a0) = (Sp.toL a0).take (pos + 1) ++ Sp.clean ((Sp.toL a0).drop (pos + 1))) := Lib.hid (by
          rw [HI.out, hc, if_neg h35, if_pos hbit, Sp.take_succ a0 pos hlt]; simp)
        clear hc HI h35 hbit
        rcases hb with e | e
        all_goals
          rw [hd, e] at hnx
          clear hd e
          go_wp2
          go_roundw
          case rel => exact ⟨pos + 1, rfl, hlt, HC⟩
          case measure => simp; omega
      · have HC : Hid (Sp.clean (Sp.toL a0) = (Sp.toL a0).take pos) := Lib.hid (by
          have hbit : ¬ Sp.isBit a0[pos] = true := by
            unfold Sp.isBit
            simp only [Bool.or_eq_true, beq_iff_eq]
            exact hb
          rw [HI.out, hc, if_neg h35, if_neg hbit, List.append_nil])
        have hx : ∃ x : Nat, (Utf8.decode a0 pos).1 = x ∧ x ≠ 35 ∧ x ≠ 48 ∧ x ≠ 49 := by
          refine ⟨_, rfl, ?_⟩
          by_cases ha : a0[pos].toNat < 128
          · rw [decode_ascii a0 pos hlt ha]
            refine ⟨fun e => h35 ?_, fun e => hb (.inl ?_), fun e => hb (.inr ?_)⟩ <;> exact UInt8.toNat_inj.1 e
          · have := (decode_high a0 pos hlt (by omega)).1
            omega
        obtain ⟨x, hx, h1, h2, h3⟩ := hx
        rw [hx] at hnx
        generalize (Utf8.decode a0 pos).2 = n at hnx
        have k1 : ((x : Int) == 35) = false := beq_eq_false_iff_ne.2 (by omega)
        have k2 : ((x : Int) == 48) = false := beq_eq_false_iff_ne.2 (by omega)
        have k3 : ((x : Int) == 49) = false := beq_eq_false_iff_ne.2 (by omega)
        clear hc HI h35 hb hx h1 h2 h3
        go_wp2
        go_ret
        exact ⟨by rw [HC.out, Sp.extract_ofL]; simp, below_iter _ _ _⟩
    · have hnx : ∀ ty, (Instr.next (.pointer (some ⟨w.heap.size, 0, none⟩)) true ty).run Try.prog (w.iter a0 pos) = _ := fun ty => run_next_end w a0 pos ty hlt
      have HC : Hid (Sp.clean (Sp.toL a0) = Sp.toL a0) := Lib.hid (by
        have hl := Sp.toL_length a0
        have h2 := HI.out
        rw [List.take_of_length_le (by omega), List.drop_of_length_le (by omega)] at h2
        rw [h2]; simp [Sp.clean])
      clear HI
      go_wp2
      go_ret
      exact ⟨by rw [HC.out, Sp.ofL_toL]; rfl, below_iter _ _ _⟩
end Go.Proofs.Ytkelibikjkgohaa.P

namespace Go.Proofs.Ytkelibikjkgohaa.P
set_option linter.unusedVariables false
open Go.RowKit Go.Proofs.YtkelibikjkgohaaW.PrintWords Go.Proofs.YtkelibikjkgohaaW.PrintLast Go.Proofs.YtkelibikjkgohaaW.PrintMore

def sym_Turn.f (a0 : ByteArray) (a1 : Int) : Option ByteArray :=
  if a0.size ≤ 4611686018427387904 then some (if a1 < 0 ∨ a1 ≥ a0.size then a0 else Sp.ofL (Sp.turn (Sp.toL a0) a1.toNat)) else none

theorem frozen_bytes (w : World) (e : TypeId) (s : ByteArray) (j : Nat) (hj : j < s.size) : (Lib.bytesWorld w e s).frozen? ⟨w.heap.size, j, none⟩ = false := by
  have hc : j < (Lib.bytesCells w e s).size := by simp [Lib.bytesCells]; exact Nat.lt_of_lt_of_le hj (Nat.le_add_right _ _)
  simp [World.frozen?, Lib.bytesWorld_at_new]
  omega

theorem turned_calls (c : UInt8) (w : World) : Calls Try.prog 119 #[.int .u8 c.toNat] w fun e w' => e = .returned (.int .u8 (Sp.turned c).toNat) ∧ w = w' := by
  have hc : ∀ n : Nat, n < 256 → c ≠ UInt8.ofNat n → ((c.toNat : Int) == n) = false := fun n hn hne => by
    refine beq_eq_false_iff_ne.2 fun e => hne ?_
    apply UInt8.toNat_inj.1
    rw [UInt8.toNat_ofNat']
    omega
  by_cases e1 : c = 49
  · subst e1
    go_enter Try.func119, Try.ntmps119
    go_wp2
    go_ret
    exact ⟨rfl, rfl⟩
  · by_cases e2 : c = 35
    · subst e2
      go_enter Try.func119, Try.ntmps119
      go_wp2
      go_ret
      exact ⟨rfl, rfl⟩
    · by_cases e3 : c = 48
      · subst e3
        go_enter Try.func119, Try.ntmps119
        go_wp2
        go_ret
        exact ⟨rfl, rfl⟩
      · have h1 : ((c.toNat : Int) == 49) = false := hc 49 (by decide) e1
        have h2 : ((c.toNat : Int) == 35) = false := hc 35 (by decide) e2
        have h3 : ((c.toNat : Int) == 48) = false := hc 48 (by decide) e3
        have HT : Hid (Sp.turned c = c) := Lib.hid (by unfold Sp.turned; rw [if_neg e3, if_neg e1, if_neg e2])
        clear e1 e2 e3 hc
        go_enter Try.func119, Try.ntmps119
        go_wp2
        go_ret
        exact ⟨by rw [HT.out]; rfl, rfl⟩

theorem turn_set (s : Sp.Str) (k : Nat) (h : k < s.length) : Sp.turn s k = s.set k (Sp.turned s[k]) := by
  induction s generalizing k with
  | nil => exact absurd h (by simp)
  | cons c t ih =>
    cases k with
    | zero => rfl
    | succ k => simp only [Sp.turn, List.set_cons_succ, List.getElem_cons_succ]; rw [ih k (by simpa using h)]

theorem nums_back (s : Sp.Str) : strOfNums (s.map fun c => (c.toNat : Int)) = Sp.ofL s := by
  unfold strOfNums Sp.ofL
  congr 1
  apply Array.ext'
  rw [List.map_map]
  have : ((fun n : Int => UInt8.ofNat n.toNat) ∘ fun c : UInt8 => (c.toNat : Int)) = id := by
    funext c
    simp
  rw [this, List.map_id]

set_option maxRecDepth 100000 in
set_option maxHeartbeats 1000000 in
theorem sym_Turn.calls (a0 : ByteArray) (a1 : Int) (r : ByteArray) (w : World) (h : sym_Turn.f a0 a1 = some r) :
    Calls Try.prog 100 #[.string a0, .int .i64 a1] w fun e w' => e = .returned (.string r) ∧ Below w.heap.size w w' := by
  unfold sym_Turn.f at h
  split at h
  case isFalse => exact absurd h (by simp)
  rename_i hs
  have hr := Option.some.inj h
  clear h
  by_cases h0 : a1 < 0
  · have HR : Hid (r = a0) := Lib.hid (by rw [← hr, if_pos (.inl h0)])
    clear hr
    go_enter Try.func100, Try.ntmps100
    go_wp2
    go_ret
    exact ⟨by rw [HR.out]; rfl, Below.refl _ _⟩
  · by_cases h1 : a1 ≥ a0.size
    · have HR : Hid (r = a0) := Lib.hid (by rw [← hr, if_pos (.inr h1)])
      clear hr
      go_enter Try.func100, Try.ntmps100
      go_wp2
      go_ret
      exact ⟨by rw [HR.out]; rfl, Below.refl _ _⟩
    · obtain ⟨k, rfl⟩ := Int.eq_ofNat_of_zero_le (show 0 ≤ a1 by omega)
      have HR : Hid (r = Sp.ofL (Sp.turn (Sp.toL a0) k)) := Lib.hid (by rw [← hr, if_neg (by omega)]; rfl)
      clear hr
      have hk : k < a0.size := by omega
      have hconv := Lib.run_convert_string_bytes (P := Try.prog) w 9 56 5 a0 Try.underlying9 Try.underlying56 Try.underlying5
      have hcell := Lib.bytesWorld_cell w 5 a0 k hk
      have hfro := frozen_bytes w 5 a0 k hk
      have hsz := Lib.bytesWorld_size w 5 a0
      generalize grownCap w a0.size 0 5 = cap at hconv
      go_enter Try.func100, Try.ntmps100
      have hback : ∀ x : Int, (convert 56 9 (.slice (some ⟨w.heap.size, 0, none⟩) a0.size cap)).run Try.prog ((Lib.bytesWorld w 5 a0).setCell ⟨w.heap.size, k, none⟩ (.int .u8 x)) = .ok (.string (strOfNums (((Sp.toL a0).map fun c => (c.toNat : Int)).set k x))) ((Lib.bytesWorld w 5 a0).setCell ⟨w.heap.size, k, none⟩ (.int .u8 x)) := by
        intro x
        refine run_convert_bytes_arg _ 56 5 Try.underlying56 Try.underlying5 w.heap.size 0 a0.size cap _ (by simp [Sp.toL_length]) (fun i hi => ?_) 9 Try.underlying9
        rw [Nat.zero_add]
        have hold := fun j hj => Lib.bytesWorld_cell w 5 a0 j hj
        by_cases hik : i = k
        · subst hik
          rw [World.cell?_setCell_same _ _ _ (hold i hi)]
          simp [Sp.toL_length, hi]
        · rw [World.cell?_setCell_other _ _ _ _ (fun e => hik (by injection e with _ e _; exact e.symm)), hold i hi]
          simp [Ne.symm hik, Sp.toL, List.getD_eq_getElem?_getD, hi]
      go_wp2_with (go_at_call 119; (with_reducible refine (turned_calls _ _).mono ?_); rintro e w1 ⟨rfl, rfl⟩)
      go_ret
      refine ⟨?_, below_set ⟨rfl, rfl, rfl, by rw [hsz]; omega, fun j hj => Lib.bytesWorld_at_old w 5 a0 j hj⟩ (Nat.le_refl _)⟩
      rw [HR.out, turn_set _ _ (by rw [Sp.toL_length]; exact hk)]
      have hg : (Sp.toL a0)[k]'(by rw [Sp.toL_length]; exact hk) = a0.data[k] := rfl
      rw [hg, ← nums_back, List.map_set]
      rfl
end Go.Proofs.Ytkelibikjkgohaa.P

namespace Go.Proofs.Ytkelibikjkgohaa.P

theorem i64_mask (n : Int) (j : Nat) (hj : j ≤ 62) (m : Int) (hm : (BitVec.ofInt 64 m).toNat = 2 ^ j - 1) : bits .and .i64 n m = n % 2 ^ j := by
  have key : (BitVec.ofInt 64 n &&& BitVec.ofInt 64 m).toNat = (n % ((2 ^ 64 : Nat) : Int)).toNat % 2 ^ j := by
    rw [BitVec.toNat_and, BitVec.toNat_ofInt, hm, Nat.and_two_pow_sub_one_eq_mod]
  show IntKind.i64.wrap ((BitVec.ofInt 64 n &&& BitVec.ofInt 64 m).toNat : Nat) = n % 2 ^ j
  have hp : (2 : Nat) ^ j ≤ 2 ^ 62 := Nat.pow_le_pow_right (by decide) hj
  have hpos : 0 < (2 : Nat) ^ j := Nat.two_pow_pos j
  have hlt := Nat.mod_lt ((n % ((2 ^ 64 : Nat) : Int)).toNat) hpos
  rw [key, IntKind.wrap_i64]
  have h64 : (0 : Int) ≤ n % ((2 ^ 64 : Nat) : Int) := Int.emod_nonneg _ (by decide)
  have e : (((n % ((2 ^ 64 : Nat) : Int)).toNat % 2 ^ j : Nat) : Int) = n % 2 ^ j := by
    rw [Int.natCast_emod, Int.toNat_of_nonneg h64]
    have hc : ((2 ^ j : Nat) : Int) = (2 : Int) ^ j := by simp
    rw [hc]
    have hd : (2 : Int) ^ j ∣ ((2 ^ 64 : Nat) : Int) := by
      have : (2 : Nat) ^ j ∣ 2 ^ 64 := Nat.pow_dvd_pow 2 (by omega)
      have h2 := Int.natCast_dvd_natCast.2 this
      rwa [hc] at h2
    exact Int.emod_emod_of_dvd n hd
  omega

theorem i64_and65535 (n : Int) : bits .and .i64 n 65535 = n % 65536 := i64_mask n 16 (by decide) 65535 (by decide)
theorem i64_and1 (n : Int) : bits .and .i64 n 1 = n % 2 := i64_mask n 1 (by decide) 1 (by decide)

theorem i64_xor4129 (n : Int) (h0 : 0 ≤ n) (h1 : n < 65536) : bits .xor .i64 n 4129 = ((n.toNat ^^^ 4129 : Nat) : Int) := by
  obtain ⟨a, rfl⟩ := Int.eq_ofNat_of_zero_le h0
  have ha : a < 2 ^ 16 := by omega
  have hx : a ^^^ 4129 < 2 ^ 16 := Nat.xor_lt_two_pow ha (by decide)
  have e1 : (BitVec.ofInt 64 (a : Int)).toNat = a := by
    rw [BitVec.ofInt_natCast, BitVec.toNat_ofNat]; exact Nat.mod_eq_of_lt (by omega)
  have e2 : (BitVec.ofInt 64 4129).toNat = 4129 := by decide
  show IntKind.i64.wrap ((BitVec.ofInt 64 (a : Int) ^^^ BitVec.ofInt 64 4129).toNat : Nat) = _
  rw [BitVec.toNat_xor, e1, e2, IntKind.wrap_i64, Int.toNat_natCast]
  omega

theorem quiet_add {P : Program} {f : FuncId} {args : Array Value} {w : World} {a n : Nat} {v : Value}
    (h : Calls P f args (w.drewN (a + n)) fun e w' => e = .returned v ∧ ∃ m, w' = (w.drewN (a + n)).drewN m) :
    Calls P f args (w.drewN (a + n)) fun e w'' => e = .returned v ∧ ∃ m, w'' = w.drewN (a + m) :=
  h.mono fun _ _ ⟨he, m, hm⟩ => ⟨he, n + m, by rw [hm, World.drewN_drewN, Nat.add_assoc]⟩
theorem quiet_add_same {P : Program} {f : FuncId} {args : Array Value} {w : World} {a n : Nat} {v : Value}
    (h : Calls P f args (w.drewN (a + n)) fun e w' => e = .returned v ∧ w' = w.drewN (a + n)) :
    Calls P f args (w.drewN (a + n)) fun e w'' => e = .returned v ∧ ∃ m, w'' = w.drewN (a + m) :=
  h.mono fun _ _ ⟨he, hm⟩ => ⟨he, n, hm⟩
end Go.Proofs.Ytkelibikjkgohaa.P

namespace Go.Proofs.Ytkelibikjkgohaa.P
set_option linter.unusedVariables false
open Go.RowKit Go.Proofs.YtkelibikjkgohaaW.PrintWords Go.Proofs.YtkelibikjkgohaaW.PrintLast Go.Proofs.YtkelibikjkgohaaW.PrintMore

theorem meth_node_hits (f1 : Int) (W : World) : (method 329 121 (.agg #[.int .i64 f1]) "plaiting/fault.hits").run Try.prog W = .ok (174, .agg #[.int .i64 f1]) W := by kernel_rfl

set_option maxRecDepth 100000 in
theorem hits_node (c0 c1 c2 c3 c4 : Int) (A0 : Option Addr) (n0 cp0 : Nat) (f1 f2 f3 : Int) (A4 : Option Addr) (n4 cp4 : Nat) (A5 : Option Addr) (n5 cp5 : Nat) (a b : Int) (w : World) :
    Calls Try.prog 40 #[.agg #[.int .i64 c0, .int .i64 c1, .int .i64 c2, .int .i64 c3, .int .i64 c4, .slice A0 n0 cp0], .agg #[.int .i64 1, .int .i64 f1, .int .i64 f2, .int .i64 f3, .slice A4 n4 cp4, .slice A5 n5 cp5], .int .i64 a, .int .i64 b] w fun e w' => e = .returned (.bool (a == f1)) ∧ Below w.heap.size w w' := by
  go_enter Try.func40, Try.ntmps40
  have hm := meth_node_hits
  go_wp2
  go_ret
  exact ⟨rfl, by repeat (first | exact Below.refl _ _ | apply below_alloc)⟩

theorem meth_none_hits (W : World) : (method 329 149 (.agg #[]) "plaiting/fault.hits").run Try.prog W = .ok (178, .agg #[]) W := by kernel_rfl

set_option maxRecDepth 100000 in
theorem hits_none (c0 c1 c2 c3 c4 : Int) (A0 : Option Addr) (n0 cp0 : Nat) (f0 f1 f2 f3 : Int) (A4 : Option Addr) (n4 cp4 : Nat) (A5 : Option Addr) (n5 cp5 : Nat) (a b : Int) (w : World) (h1 : f0 ≠ 1) (h2 : f0 ≠ 2) :
    Calls Try.prog 40 #[.agg #[.int .i64 c0, .int .i64 c1, .int .i64 c2, .int .i64 c3, .int .i64 c4, .slice A0 n0 cp0], .agg #[.int .i64 f0, .int .i64 f1, .int .i64 f2, .int .i64 f3, .slice A4 n4 cp4, .slice A5 n5 cp5], .int .i64 a, .int .i64 b] w fun e w' => e = .returned (.bool false) ∧ Below w.heap.size w w' := by
  have k1 : (f0 == 1) = false := beq_eq_false_iff_ne.2 h1
  have k2 : (f0 == 2) = false := beq_eq_false_iff_ne.2 h2
  clear h1 h2
  go_enter Try.func40, Try.ntmps40
  have hm := meth_none_hits
  go_wp2
  go_ret
  exact ⟨rfl, by repeat (first | exact Below.refl _ _ | apply below_alloc)⟩

theorem wrong_node (f1 a : Int) (w : World) : Calls Try.prog 81 #[.agg #[.int .i64 f1], .int .i64 a] w fun e w' => e = .returned (.bool (a == f1)) ∧ Below w.heap.size w w' := by
  go_enter Try.func81, Try.ntmps81
  go_wp2
  go_ret
  exact ⟨rfl, by repeat (first | exact Below.refl _ _ | apply below_alloc)⟩

theorem ta_node (v : Value) (W : World) : (Instr.typeAssert (.iface 121 v) 117 121 true).run Try.prog W = .ok (.tuple #[v, .bool true]) W := by kernel_rfl
theorem ta_link (v : Value) (W : World) : (Instr.typeAssert (.iface 147 v) 117 121 true).run Try.prog W = .ok (.tuple #[.agg #[.int .i64 0], .bool false]) W := by kernel_rfl
theorem ta_none (v : Value) (W : World) : (Instr.typeAssert (.iface 149 v) 117 121 true).run Try.prog W = .ok (.tuple #[.agg #[.int .i64 0], .bool false]) W := by kernel_rfl

set_option maxRecDepth 100000 in
set_option maxHeartbeats 1000000 in
theorem right_at (c0 c1 c2 c3 c4 : Int) (A0 : Option Addr) (n0 cp0 : Nat) (f1 f2 f3 : Int) (A4 : Option Addr) (n4 cp4 : Nat) (A5 : Option Addr) (n5 cp5 : Nat) (r a : Int) (w : World) (h : a = f1) :
    Calls Try.prog 42 #[.agg #[.int .i64 c0, .int .i64 c1, .int .i64 c2, .int .i64 c3, .int .i64 c4, .slice A0 n0 cp0], .agg #[.int .i64 1, .int .i64 f1, .int .i64 f2, .int .i64 f3, .slice A4 n4 cp4, .slice A5 n5 cp5], .int .i64 r, .int .i64 a] w fun e w' => e = .returned (.bool (decide (f3 ≤ r))) ∧ Below w.heap.size w w' := by
  have k : (a == f1) = true := beq_iff_eq.2 h
  clear h
  have ta := ta_node
  go_enter Try.func42, Try.ntmps42
  go_wp2
  go_ret
  exact ⟨rfl, by repeat (first | exact Below.refl _ _ | apply below_alloc)⟩

set_option maxRecDepth 100000 in
set_option maxHeartbeats 1000000 in
theorem right_off (c0 c1 c2 c3 c4 : Int) (A0 : Option Addr) (n0 cp0 : Nat) (f1 f2 f3 : Int) (A4 : Option Addr) (n4 cp4 : Nat) (A5 : Option Addr) (n5 cp5 : Nat) (r a : Int) (w : World) (h : a ≠ f1) :
    Calls Try.prog 42 #[.agg #[.int .i64 c0, .int .i64 c1, .int .i64 c2, .int .i64 c3, .int .i64 c4, .slice A0 n0 cp0], .agg #[.int .i64 1, .int .i64 f1, .int .i64 f2, .int .i64 f3, .slice A4 n4 cp4, .slice A5 n5 cp5], .int .i64 r, .int .i64 a] w fun e w' => e = .returned (.bool true) ∧ Below w.heap.size w w' := by
  have k : (a == f1) = false := beq_eq_false_iff_ne.2 h
  clear h
  have ta := ta_node
  go_enter Try.func42, Try.ntmps42
  go_wp2
  go_ret
  exact ⟨rfl, by repeat (first | exact Below.refl _ _ | apply below_alloc)⟩

set_option maxRecDepth 100000 in
set_option maxHeartbeats 1000000 in
theorem right_link (c0 c1 c2 c3 c4 : Int) (A0 : Option Addr) (n0 cp0 : Nat) (f1 f2 f3 : Int) (A4 : Option Addr) (n4 cp4 : Nat) (A5 : Option Addr) (n5 cp5 : Nat) (r a : Int) (w : World) :
    Calls Try.prog 42 #[.agg #[.int .i64 c0, .int .i64 c1, .int .i64 c2, .int .i64 c3, .int .i64 c4, .slice A0 n0 cp0], .agg #[.int .i64 2, .int .i64 f1, .int .i64 f2, .int .i64 f3, .slice A4 n4 cp4, .slice A5 n5 cp5], .int .i64 r, .int .i64 a] w fun e w' => e = .returned (.bool true) ∧ Below w.heap.size w w' := by
  have ta := ta_link
  go_enter Try.func42, Try.ntmps42
  go_wp2
  go_ret
  exact ⟨rfl, by repeat (first | exact Below.refl _ _ | apply below_alloc)⟩

set_option maxRecDepth 100000 in
set_option maxHeartbeats 1000000 in
theorem right_none (c0 c1 c2 c3 c4 : Int) (A0 : Option Addr) (n0 cp0 : Nat) (f0 f1 f2 f3 : Int) (A4 : Option Addr) (n4 cp4 : Nat) (A5 : Option Addr) (n5 cp5 : Nat) (r a : Int) (w : World) (h1 : f0 ≠ 1) (h2 : f0 ≠ 2) :
    Calls Try.prog 42 #[.agg #[.int .i64 c0, .int .i64 c1, .int .i64 c2, .int .i64 c3, .int .i64 c4, .slice A0 n0 cp0], .agg #[.int .i64 f0, .int .i64 f1, .int .i64 f2, .int .i64 f3, .slice A4 n4 cp4, .slice A5 n5 cp5], .int .i64 r, .int .i64 a] w fun e w' => e = .returned (.bool true) ∧ Below w.heap.size w w' := by
  have k1 : (f0 == 1) = false := beq_eq_false_iff_ne.2 h1
  have k2 : (f0 == 2) = false := beq_eq_false_iff_ne.2 h2
  clear h1 h2
  have ta := ta_none
  go_enter Try.func42, Try.ntmps42
  go_wp2
  go_ret
  exact ⟨rfl, by repeat (first | exact Below.refl _ _ | apply below_alloc)⟩

/-- fault.Right -/
def rightB (f0 f1 f3 r a : Int) : Bool := !(f0 == 1) || !(a == f1) || decide (f3 ≤ r)

theorem right_any (c0 c1 c2 c3 c4 : Int) (A0 : Option Addr) (n0 cp0 : Nat) (f0 f1 f2 f3 : Int) (A4 : Option Addr) (n4 cp4 : Nat) (A5 : Option Addr) (n5 cp5 : Nat) (r a : Int) (w : World) :
    Calls Try.prog 42 #[.agg #[.int .i64 c0, .int .i64 c1, .int .i64 c2, .int .i64 c3, .int .i64 c4, .slice A0 n0 cp0], .agg #[.int .i64 f0, .int .i64 f1, .int .i64 f2, .int .i64 f3, .slice A4 n4 cp4, .slice A5 n5 cp5], .int .i64 r, .int .i64 a] w fun e w' => e = .returned (.bool (rightB f0 f1 f3 r a)) ∧ Below w.heap.size w w' := by
  by_cases h1 : f0 = 1
  · subst h1
    by_cases ha : a = f1
    · rw [show rightB 1 f1 f3 r a = decide (f3 ≤ r) from by unfold rightB; simp [ha]]
      exact right_at c0 c1 c2 c3 c4 A0 n0 cp0 f1 f2 f3 A4 n4 cp4 A5 n5 cp5 r a w ha
    · rw [show rightB 1 f1 f3 r a = true from by unfold rightB; simp [ha]]
      exact right_off c0 c1 c2 c3 c4 A0 n0 cp0 f1 f2 f3 A4 n4 cp4 A5 n5 cp5 r a w ha
  · rw [show rightB f0 f1 f3 r a = true from by unfold rightB; simp [h1]]
    by_cases h2 : f0 = 2
    · subst h2
      exact right_link c0 c1 c2 c3 c4 A0 n0 cp0 f1 f2 f3 A4 n4 cp4 A5 n5 cp5 r a w
    · exact right_none c0 c1 c2 c3 c4 A0 n0 cp0 f0 f1 f2 f3 A4 n4 cp4 A5 n5 cp5 r a w h1 h2
end Go.Proofs.Ytkelibikjkgohaa.P

namespace Go.Proofs.Ytkelibikjkgohaa.P
open Go.RowKit Go.Proofs.YtkelibikjkgohaaW.PrintWords Go.Proofs.YtkelibikjkgohaaW.PrintLast Go.Proofs.YtkelibikjkgohaaW.PrintMore
attribute [local go_sem] max2_int min2_int max_two min_two max_three min_three max_four min_four
set_option linter.unusedVariables false
set_option linter.unusedSimpArgs false
/-! ### ring_At: function 128 -/
def ring_At.f (a0 : Int) (a1 : Int) (a2 : Int) : Option (Int) := if a0 ≤ 0 then (some 0) else (if a0 = 0 then (none) else (some (Int.tmod (wrap64 ((Int.tmod (wrap64 (a1 + a2)) a0) + a0)) a0)))
set_option maxHeartbeats 8000000 in
set_option maxRecDepth 100000 in
theorem ring_At.calls (a0 : Int) (a1 : Int) (a2 : Int) (r : Int) (w : World) (h : ring_At.f a0 a1 a2 = some r) :
    Calls Try.prog 128 #[.int .i64 a0, .int .i64 a1, .int .i64 a2] w fun e w' => e = .returned (.int .i64 r) ∧ Drawn0 w w' := by
  have H : (if a0 ≤ 0 then (some 0) else (if a0 = 0 then (none) else (some (Int.tmod (wrap64 ((Int.tmod (wrap64 (a1 + a2)) a0) + a0)) a0)))) = some r := h
  clear h
  by_cases c4 : a0 ≤ 0
  · rw [if_pos c4] at H
    have c4b0 : decide (a0 ≤ 0) = true := decide_eq_true c4
    clear c4
    obtain rfl := Option.some.inj H
    go_enter Try.func128, Try.ntmps128
    go_wp2
    go_ret
    exact ⟨by first | rfl | (simp; done) | (simp [*]; done), by repeat (first | exact Drawn0.refl _ | apply Drawn0.step)⟩
  · rw [if_neg c4] at H
    have c4b0 : decide (a0 ≤ 0) = false := decide_eq_false c4
    clear c4
    by_cases c5 : a0 = 0
    · rw [if_pos c5] at H
      exact absurd H (by simp)
    · rw [if_neg c5] at H
      have c5b0 : (a0 == 0) = false := beq_eq_false_iff_ne.mpr c5
      have c5b1 : (a0 != 0) = true := bne_iff_ne.mpr c5
      obtain rfl := Option.some.inj H
      go_enter Try.func128, Try.ntmps128
      go_wp2
      go_ret
      exact ⟨by first | rfl | (simp; done) | (simp [*]; done), by repeat (first | exact Drawn0.refl _ | apply Drawn0.step)⟩

end Go.Proofs.Ytkelibikjkgohaa.P

namespace Go.Proofs.Ytkelibikjkgohaa.P
set_option linter.unusedVariables false
open Go.RowKit Go.Proofs.YtkelibikjkgohaaW.PrintWords Go.Proofs.YtkelibikjkgohaaW.PrintLast Go.Proofs.YtkelibikjkgohaaW.PrintMore

theorem tmod_twice (x n : Int) (h0 : 0 < n) : Int.tmod (Int.tmod x n + n) n = x % n := by
  have h1 : Int.tmod x n + n = (Int.tmod x n + n) := rfl
  rcases Int.le_total 0 x with hx | hx
  · rw [Int.tmod_eq_emod_of_nonneg hx, Int.tmod_eq_emod_of_nonneg (by have := Int.emod_nonneg x (show n ≠ 0 by omega); omega)]
    simp
  · have e : Int.tmod x n = -((-x) % n) := by
      have h2 := Int.neg_tmod (a := -x) (b := n)
      rw [Int.neg_neg] at h2
      rw [h2, Int.tmod_eq_emod_of_nonneg (by omega)]
    have h3 := Int.emod_nonneg (-x) (show n ≠ 0 by omega)
    have h4 := Int.emod_lt_of_pos (-x) h0
    rw [e, Int.tmod_eq_emod_of_nonneg (by omega)]
    have h5 := Int.mul_ediv_add_emod (-x) n
    have h6 : -((-x) % n) + n = x + n * (-x / n + 1) := by
      rw [Int.mul_add, Int.mul_one]; omega
    rw [h6, Int.add_mul_emod_self_left]

theorem at_calls (n i d : Int) (w : World) (hn : 1 ≤ n ∧ n ≤ 100) (hi : -1000 ≤ i + d ∧ i + d ≤ 1000) :
    Calls Try.prog 128 #[.int .i64 n, .int .i64 i, .int .i64 d] w fun e w' => e = .returned (.int .i64 ((i + d) % n)) ∧ ∃ m, w' = w.drewN m := by
  refine (ring_At.calls n i d ((i + d) % n) w ?_).mono fun e w' ⟨h1, h2⟩ => ⟨h1, h2.out⟩
  unfold ring_At.f
  rw [if_neg (by omega), if_neg (by omega)]
  have e1 : wrap64 (i + d) = i + d := by unfold wrap64; omega
  have hb : -100 < Int.tmod (i + d) n ∧ Int.tmod (i + d) n < 100 := by
    have h1 := Int.tmod_lt_of_pos (i + d) (show 0 < n by omega)
    have h2 := Int.lt_tmod_of_pos (i + d) (show 0 < n by omega)
    omega
  have e2 : wrap64 (Int.tmod (i + d) n + n) = Int.tmod (i + d) n + n := by unfold wrap64; omega
  rw [e1, e2, tmod_twice _ _ (by omega)]

def linkB (n a b : Int) : Int × Bool :=
  if (a + 1) % n = b then (a, true) else if (b + 1) % n = a then (b, true) else if (a + 2) % n = b then (a + n, true) else if (b + 2) % n = a then (b + n, true) else (0, false)

theorem li_0 (a b : Int) (W : World) : (Instr.index 228 (.agg #[.int .i64 a, .int .i64 b, .int .i64 1, .int .i64 b, .int .i64 a, .int .i64 1, .int .i64 a, .int .i64 b, .int .i64 2, .int .i64 b, .int .i64 a, .int .i64 2]) (.int .i64 0)).run Try.prog W = .ok (.agg #[.int .i64 a, .int .i64 b, .int .i64 1]) W := by kernel_rfl
theorem li_1 (a b : Int) (W : World) : (Instr.index 228 (.agg #[.int .i64 a, .int .i64 b, .int .i64 1, .int .i64 b, .int .i64 a, .int .i64 1, .int .i64 a, .int .i64 b, .int .i64 2, .int .i64 b, .int .i64 a, .int .i64 2]) (.int .i64 1)).run Try.prog W = .ok (.agg #[.int .i64 b, .int .i64 a, .int .i64 1]) W := by kernel_rfl
theorem li_2 (a b : Int) (W : World) : (Instr.index 228 (.agg #[.int .i64 a, .int .i64 b, .int .i64 1, .int .i64 b, .int .i64 a, .int .i64 1, .int .i64 a, .int .i64 b, .int .i64 2, .int .i64 b, .int .i64 a, .int .i64 2]) (.int .i64 2)).run Try.prog W = .ok (.agg #[.int .i64 a, .int .i64 b, .int .i64 2]) W := by kernel_rfl
theorem li_3 (a b : Int) (W : World) : (Instr.index 228 (.agg #[.int .i64 a, .int .i64 b, .int .i64 1, .int .i64 b, .int .i64 a, .int .i64 1, .int .i64 a, .int .i64 b, .int .i64 2, .int .i64 b, .int .i64 a, .int .i64 2]) (.int .i64 3)).run Try.prog W = .ok (.agg #[.int .i64 b, .int .i64 a, .int .i64 2]) W := by kernel_rfl

/-- the round k finds it: its two ends, its step -/
def linkHit (n a b : Int) (k : Nat) : Prop :=
  (k = 0 ∧ (a + 1) % n = b) ∨ (k = 1 ∧ (b + 1) % n = a) ∨ (k = 2 ∧ (a + 2) % n = b) ∨ (k = 3 ∧ (b + 2) % n = a)

/-- none of the first k rounds has found it -/
def linkNot (n a b : Int) (k : Nat) : Prop := ∀ j, j < k → ¬ linkHit n a b j

set_option maxRecDepth 100000 in
set_option maxHeartbeats 2000000 in
theorem link_calls (n a b : Int) (w : World) (hn : 6 ≤ n ∧ n ≤ 12) (ha : 0 ≤ a ∧ a < n) (hb : 0 ≤ b ∧ b < n) :
    Calls Try.prog 177 #[.int .i64 n, .int .i64 a, .int .i64 b] w fun e w' => e = .returned (.tuple #[.int .i64 (linkB n a b).1, .bool (linkB n a b).2]) ∧ Below w.heap.size w w' := by
  obtain ⟨n0, n1⟩ := hn
  obtain ⟨a0, a1⟩ := ha
  obtain ⟨b0, b1⟩ := hb
  have q1 : decide (a < 0) = false := decide_eq_false (by omega)
  have q2 : decide (b < 0) = false := decide_eq_false (by omega)
  have q3 : decide (n ≤ a) = false := decide_eq_false (by omega)
  have q4 : decide (n ≤ b) = false := decide_eq_false (by omega)
  go_enter Try.func177, Try.ntmps177
  go_wp2
  clear q1 q2 q3 q4
  go_loopw [39] (fun t wr => ∃ k : Nat, k ≤ 4 ∧ t = .int .i64 k ∧ Below w.heap.size w wr ∧ Hid (linkNot n a b k)) (fun t _ => 4 - (intOf t).toNat)
  case atStart => exact ⟨0, by omega, rfl, Below.refl _ _, Lib.hid (fun j hj => absurd hj (by omega))⟩
  case round =>
    obtain ⟨k, hk, rfl, hB, HN⟩ := hrel
    have HB := Lib.hid hB
    clear hB
    have i0 := li_0 a b
    have i1 := li_1 a b
    have i2 := li_2 a b
    have i3 := li_3 a b
    by_cases hlt : k < 4
    · have h4 : k = 0 ∨ k = 1 ∨ k = 2 ∨ k = 3 := by omega
      rcases h4 with rfl | rfl | rfl | rfl
      · by_cases hx : (a + 1) % n = b
        · have kx : ((a + 1) % n == b) = true := beq_iff_eq.2 hx
          have HL := Lib.hid (show linkB n a b = (a, true) from by unfold linkB;  rw [if_pos hx])
          have hv : linkB n a b = (a, true) := HL.out
          clear hx HN hv
          go_wp2
          clear i0 i1 i2 i3
          go_quiet ((go_at_call 128; exact Calls.quiet_of (at_calls _ _ _ _ ⟨by omega, by omega⟩ ⟨by omega, by omega⟩)))
          go_wp2
          go_ret2
          exact ⟨by rw [HL.out]; rfl, pw_below_drewN (below_alloc HB.out _) _⟩
        · have kx : ((a + 1) % n == b) = false := beq_eq_false_iff_ne.2 hx
          have HN' := Lib.hid (show linkNot n a b 1 from fun j hj hh => by
            rcases Nat.lt_or_ge j 0 with h | h
            · exact HN.out j h hh
            · obtain rfl : j = 0 := by omega
              unfold linkHit at hh
              rcases hh with ⟨h1, h2⟩ | ⟨h1, h2⟩ | ⟨h1, h2⟩ | ⟨h1, h2⟩
              all_goals first | exact hx h2 | exact absurd h1 (by decide))
          clear hx HN
          go_wp2
          clear i0 i1 i2 i3
          go_quiet ((go_at_call 128; exact Calls.quiet_of (at_calls _ _ _ _ ⟨by omega, by omega⟩ ⟨by omega, by omega⟩)))
          go_wp2
          go_roundw
          case rel => exact ⟨1, by omega, rfl, pw_below_drewN (below_alloc HB.out _) _, HN'⟩
          case measure => simp [intOf]
      · by_cases hx : (b + 1) % n = a
        · have kx : ((b + 1) % n == a) = true := beq_iff_eq.2 hx
          have HL := Lib.hid (show linkB n a b = (b, true) from by unfold linkB; rw [if_neg (fun h => HN.out 0 (by omega) (Or.inl ⟨rfl, h⟩))]; rw [if_pos hx])
          have hv : linkB n a b = (b, true) := HL.out
          clear hx HN hv
          go_wp2
          clear i0 i1 i2 i3
          go_quiet ((go_at_call 128; exact Calls.quiet_of (at_calls _ _ _ _ ⟨by omega, by omega⟩ ⟨by omega, by omega⟩)))
          go_wp2
          go_ret2
          exact ⟨by rw [HL.out]; rfl, pw_below_drewN (below_alloc HB.out _) _⟩
        · have kx : ((b + 1) % n == a) = false := beq_eq_false_iff_ne.2 hx
          have HN' := Lib.hid (show linkNot n a b 2 from fun j hj hh => by
            rcases Nat.lt_or_ge j 1 with h | h
            · exact HN.out j h hh
            · obtain rfl : j = 1 := by omega
              unfold linkHit at hh
              rcases hh with ⟨h1, h2⟩ | ⟨h1, h2⟩ | ⟨h1, h2⟩ | ⟨h1, h2⟩
              all_goals first | exact hx h2 | exact absurd h1 (by decide))
          clear hx HN
          go_wp2
          clear i0 i1 i2 i3
          go_quiet ((go_at_call 128; exact Calls.quiet_of (at_calls _ _ _ _ ⟨by omega, by omega⟩ ⟨by omega, by omega⟩)))
          go_wp2
          go_roundw
          case rel => exact ⟨2, by omega, rfl, pw_below_drewN (below_alloc HB.out _) _, HN'⟩
          case measure => simp [intOf]
      · by_cases hx : (a + 2) % n = b
        · have kx : ((a + 2) % n == b) = true := beq_iff_eq.2 hx
          have HL := Lib.hid (show linkB n a b = (a + n, true) from by unfold linkB; rw [if_neg (fun h => HN.out 0 (by omega) (Or.inl ⟨rfl, h⟩))]; rw [if_neg (fun h => HN.out 1 (by omega) (Or.inr (Or.inl ⟨rfl, h⟩)))]; rw [if_pos hx])
          have hv : linkB n a b = (a + n, true) := HL.out
          clear hx HN hv
          go_wp2
          clear i0 i1 i2 i3
          go_quiet ((go_at_call 128; exact Calls.quiet_of (at_calls _ _ _ _ ⟨by omega, by omega⟩ ⟨by omega, by omega⟩)))
          go_wp2
          go_ret2
          exact ⟨by rw [HL.out]; rfl, pw_below_drewN (below_alloc HB.out _) _⟩
        · have kx : ((a + 2) % n == b) = false := beq_eq_false_iff_ne.2 hx
          have HN' := Lib.hid (show linkNot n a b 3 from fun j hj hh => by
            rcases Nat.lt_or_ge j 2 with h | h
            · exact HN.out j h hh
            · obtain rfl : j = 2 := by omega
              unfold linkHit at hh
              rcases hh with ⟨h1, h2⟩ | ⟨h1, h2⟩ | ⟨h1, h2⟩ | ⟨h1, h2⟩
              all_goals first | exact hx h2 | exact absurd h1 (by decide))
          clear hx HN
          go_wp2
          clear i0 i1 i2 i3
          go_quiet ((go_at_call 128; exact Calls.quiet_of (at_calls _ _ _ _ ⟨by omega, by omega⟩ ⟨by omega, by omega⟩)))
          go_wp2
          go_roundw
          case rel => exact ⟨3, by omega, rfl, pw_below_drewN (below_alloc HB.out _) _, HN'⟩
          case measure => simp [intOf]
      · by_cases hx : (b + 2) % n = a
        · have kx : ((b + 2) % n == a) = true := beq_iff_eq.2 hx
          have HL := Lib.hid (show linkB n a b = (b + n, true) from by unfold linkB; rw [if_neg (fun h => HN.out 0 (by omega) (Or.inl ⟨rfl, h⟩))]; rw [if_neg (fun h => HN.out 1 (by omega) (Or.inr (Or.inl ⟨rfl, h⟩)))]; rw [if_neg (fun h => HN.out 2 (by omega) (Or.inr (Or.inr (Or.inl ⟨rfl, h⟩))))]; rw [if_pos hx])
          have hv : linkB n a b = (b + n, true) := HL.out
          clear hx HN hv
          go_wp2
          clear i0 i1 i2 i3
          go_quiet ((go_at_call 128; exact Calls.quiet_of (at_calls _ _ _ _ ⟨by omega, by omega⟩ ⟨by omega, by omega⟩)))
          go_wp2
          go_ret2
          exact ⟨by rw [HL.out]; rfl, pw_below_drewN (below_alloc HB.out _) _⟩
        · have kx : ((b + 2) % n == a) = false := beq_eq_false_iff_ne.2 hx
          have HN' := Lib.hid (show linkNot n a b 4 from fun j hj hh => by
            rcases Nat.lt_or_ge j 3 with h | h
            · exact HN.out j h hh
            · obtain rfl : j = 3 := by omega
              unfold linkHit at hh
              rcases hh with ⟨h1, h2⟩ | ⟨h1, h2⟩ | ⟨h1, h2⟩ | ⟨h1, h2⟩
              all_goals first | exact hx h2 | exact absurd h1 (by decide))
          clear hx HN
          go_wp2
          clear i0 i1 i2 i3
          go_quiet ((go_at_call 128; exact Calls.quiet_of (at_calls _ _ _ _ ⟨by omega, by omega⟩ ⟨by omega, by omega⟩)))
          go_wp2
          go_roundw
          case rel => exact ⟨4, by omega, rfl, pw_below_drewN (below_alloc HB.out _) _, HN'⟩
          case measure => simp [intOf]
    · obtain rfl : k = 4 := by omega
      have HL := Lib.hid (show linkB n a b = (0, false) from by
        unfold linkB
        rw [if_neg (fun h => HN.out 0 (by omega) (Or.inl ⟨rfl, h⟩)), if_neg (fun h => HN.out 1 (by omega) (Or.inr (Or.inl ⟨rfl, h⟩))), if_neg (fun h => HN.out 2 (by omega) (Or.inr (Or.inr (Or.inl ⟨rfl, h⟩)))), if_neg (fun h => HN.out 3 (by omega) (Or.inr (Or.inr (Or.inr ⟨rfl, h⟩))))])
      go_wp2
      go_ret2
      exact ⟨by rw [HL.out]; rfl, HB.out⟩

/-! whom a link's locus hits -/
theorem meth_link_hits (f1 f2 : Int) (W : World) : (method 329 147 (.agg #[.int .i64 f1, .int .i64 f2]) "plaiting/fault.hits").run Try.prog W = .ok (175, .agg #[.int .i64 f1, .int .i64 f2]) W := by kernel_rfl

def linkHits (n at_ a b : Int) : Bool := (linkB n a b).2 && ((linkB n a b).1 == at_)

set_option maxRecDepth 100000 in
theorem link_hits (n k a b : Int) (w : World) (hn : 6 ≤ n ∧ n ≤ 12) (ha : 0 ≤ a ∧ a < n) (hb : 0 ≤ b ∧ b < n) :
    Calls Try.prog 175 #[.agg #[.int .i64 n, .int .i64 k], .int .i64 a, .int .i64 b] w fun e w' => e = .returned (.bool (linkHits n k a b)) ∧ Below w.heap.size w w' := by
  have HL := fun W => Lib.hid (link_calls n a b W hn ha hb)
  have HR := Lib.hid (show linkHits n k a b = ((linkB n a b).2 && ((linkB n a b).1 == k)) from rfl)
  generalize linkHits n k a b = r at *
  generalize linkB n a b = x at HL HR
  obtain ⟨l, is⟩ := x
  clear hn ha hb
  go_enter Try.func175, Try.ntmps175
  have ht : ∀ (u : Int) (v : Bool), (u, v).1 = u := fun _ _ => rfl
  cases is with
  | false =>
    have HL' : ∀ W : World, Hid (Calls Try.prog 177 #[.int .i64 n, .int .i64 a, .int .i64 b] W fun e w' => e = .returned (.tuple #[.int .i64 l, .bool false]) ∧ Below W.heap.size W w') := HL
    clear HL
    go_wp2_with (go_loud (go_at_call 177; (with_reducible refine (HL' _).out.mono ?_); rintro e w1 ⟨rfl, hB⟩; have HB := Lib.hid hB; clear hB))
    go_ret
    exact ⟨by rw [HR.out]; rfl, (below_alloc (Below.refl _ _) _).trans (HB.out.mono (by simp))⟩
  | true =>
    have HL' : ∀ W : World, Hid (Calls Try.prog 177 #[.int .i64 n, .int .i64 a, .int .i64 b] W fun e w' => e = .returned (.tuple #[.int .i64 l, .bool true]) ∧ Below W.heap.size W w') := HL
    clear HL
    go_wp2_with (go_loud (go_at_call 177; (with_reducible refine (HL' _).out.mono ?_); rintro e w1 ⟨rfl, hB⟩; have hc : ∀ p : Addr, p.block < _ → _ := fun p hp => hB.cell hp; have HB := Lib.hid hB; clear hB))
    go_ret
    exact ⟨by rw [HR.out]; rfl, (below_alloc (Below.refl _ _) _).trans (HB.out.mono (by simp))⟩

set_option maxRecDepth 100000 in
theorem hits_link (c0 c1 c2 c3 c4 : Int) (A0 : Option Addr) (n0 cp0 : Nat) (f1 f2 f3 : Int) (A4 : Option Addr) (n4 cp4 : Nat) (A5 : Option Addr) (n5 cp5 : Nat) (a b : Int) (w : World) (hn : 6 ≤ c0 ∧ c0 ≤ 12) (ha : 0 ≤ a ∧ a < c0) (hb : 0 ≤ b ∧ b < c0) :
    Calls Try.prog 40 #[.agg #[.int .i64 c0, .int .i64 c1, .int .i64 c2, .int .i64 c3, .int .i64 c4, .slice A0 n0 cp0], .agg #[.int .i64 2, .int .i64 f1, .int .i64 f2, .int .i64 f3, .slice A4 n4 cp4, .slice A5 n5 cp5], .int .i64 a, .int .i64 b] w fun e w' => e = .returned (.bool (linkHits c0 f1 a b)) ∧ Below w.heap.size w w' := by
  have HL := fun W => Lib.hid (link_hits c0 f1 a b W hn ha hb)
  generalize linkHits c0 f1 a b = r at *
  clear hn ha hb
  go_enter Try.func40, Try.ntmps40
  have hm := meth_link_hits
  go_wp2_with (first | (go_at_call 175; (with_reducible refine (HL _).out.mono ?_); rintro e w1 ⟨rfl, hB⟩; have HB := Lib.hid hB; clear hB) | (go_at_call 80; go_in))
  go_ret
  refine ⟨rfl, Below.trans ?_ (HB.out.mono ?_)⟩
  · repeat (first | exact Below.refl _ _ | apply below_alloc)
  · simp only [World.size_alloc]; omega

/-- fault.Hits -/
def hitsB (c0 f0 f1 a b : Int) : Bool := if f0 = 1 then a == f1 else if f0 = 2 then linkHits c0 f1 a b else false

theorem hits_any (c0 c1 c2 c3 c4 : Int) (A0 : Option Addr) (n0 cp0 : Nat) (f0 f1 f2 f3 : Int) (A4 : Option Addr) (n4 cp4 : Nat) (A5 : Option Addr) (n5 cp5 : Nat) (a b : Int) (w : World) (hk : f0 = 2 → (6 ≤ c0 ∧ c0 ≤ 12) ∧ (0 ≤ a ∧ a < c0) ∧ (0 ≤ b ∧ b < c0)) :
    Calls Try.prog 40 #[.agg #[.int .i64 c0, .int .i64 c1, .int .i64 c2, .int .i64 c3, .int .i64 c4, .slice A0 n0 cp0], .agg #[.int .i64 f0, .int .i64 f1, .int .i64 f2, .int .i64 f3, .slice A4 n4 cp4, .slice A5 n5 cp5], .int .i64 a, .int .i64 b] w fun e w' => e = .returned (.bool (hitsB c0 f0 f1 a b)) ∧ Below w.heap.size w w' := by
  unfold hitsB
  by_cases h1 : f0 = 1
  · subst h1
    rw [if_pos rfl]
    exact hits_node c0 c1 c2 c3 c4 A0 n0 cp0 f1 f2 f3 A4 n4 cp4 A5 n5 cp5 a b w
  · rw [if_neg h1]
    by_cases h2 : f0 = 2
    · subst h2
      rw [if_pos rfl]
      exact hits_link c0 c1 c2 c3 c4 A0 n0 cp0 f1 f2 f3 A4 n4 cp4 A5 n5 cp5 a b w (hk rfl).1 (hk rfl).2.1 (hk rfl).2.2
    · rw [if_neg h2]
      exact hits_none c0 c1 c2 c3 c4 A0 n0 cp0 f0 f1 f2 f3 A4 n4 cp4 A5 n5 cp5 a b w h1 h2
end Go.Proofs.Ytkelibikjkgohaa.P

namespace Go.Proofs.Ytkelibikjkgohaa.P
open Go.RowKit Go.Proofs.YtkelibikjkgohaaW.PrintWords Go.Proofs.YtkelibikjkgohaaW.PrintLast Go.Proofs.YtkelibikjkgohaaW.PrintMore
attribute [local go_sem] max2_int min2_int max_two min_two max_three min_three max_four min_four
set_option linter.unusedVariables false
set_option linter.unusedSimpArgs false
/-! ### fault_pick: function 77 -/
def fault_pick.f (a0 : Int) (a1 : Int) : Option (Int) := if a1 ≤ 0 then (some (-1)) else (if a1 = 0 then (none) else (some (Int.tmod (wrap64 ((Int.tmod a0 a1) + a1)) a1)))
set_option maxHeartbeats 8000000 in
set_option maxRecDepth 100000 in
theorem fault_pick.calls (a0 : Int) (a1 : Int) (r : Int) (w : World) (h : fault_pick.f a0 a1 = some r) :
    Calls Try.prog 77 #[.int .i64 a0, .int .i64 a1] w fun e w' => e = .returned (.int .i64 r) ∧ Drawn0 w w' := by
  have H : (if a1 ≤ 0 then (some (-1)) else (if a1 = 0 then (none) else (some (Int.tmod (wrap64 ((Int.tmod a0 a1) + a1)) a1)))) = some r := h
  clear h
  by_cases c3 : a1 ≤ 0
  · rw [if_pos c3] at H
    have c3b0 : decide (a1 ≤ 0) = true := decide_eq_true c3
    clear c3
    obtain rfl := Option.some.inj H
    go_enter Try.func77, Try.ntmps77
    go_wp2
    go_ret
    exact ⟨by first | rfl | (simp; done) | (simp [*]; done), by repeat (first | exact Drawn0.refl _ | apply Drawn0.step)⟩
  · rw [if_neg c3] at H
    have c3b0 : decide (a1 ≤ 0) = false := decide_eq_false c3
    clear c3
    by_cases c4 : a1 = 0
    · rw [if_pos c4] at H
      exact absurd H (by simp)
    · rw [if_neg c4] at H
      have c4b0 : (a1 == 0) = false := beq_eq_false_iff_ne.mpr c4
      have c4b1 : (a1 != 0) = true := bne_iff_ne.mpr c4
      obtain rfl := Option.some.inj H
      go_enter Try.func77, Try.ntmps77
      go_wp2
      go_ret
      exact ⟨by first | rfl | (simp; done) | (simp [*]; done), by repeat (first | exact Drawn0.refl _ | apply Drawn0.step)⟩

end Go.Proofs.Ytkelibikjkgohaa.P

namespace Go.Proofs.Ytkelibikjkgohaa.P
set_option linter.unusedVariables false
open Go.RowKit Go.Proofs.YtkelibikjkgohaaW.PrintWords Go.Proofs.YtkelibikjkgohaaW.PrintLast Go.Proofs.YtkelibikjkgohaaW.PrintMore

theorem sz_ofL (l : Sp.Str) : (Sp.ofL l).size = l.length := by rw [← Sp.toL_length, Sp.toL_ofL]
theorem turn_len (l : Sp.Str) (k : Nat) : (Sp.turn l k).length = l.length := by
  induction l generalizing k with
  | nil => cases k <;> rfl
  | cons c t ih => cases k with
    | zero => rfl
    | succ k => simp [Sp.turn, ih]

theorem below_step {w W w' : World} (h : Below w.heap.size w W) (k : Below W.heap.size W w') : Below w.heap.size w w' := h.trans (k.mono h.size)

theorem pick_calls (n m : Int) (w : World) (hm : 1 ≤ m ∧ m ≤ 4611686018427387904) :
    Calls Try.prog 77 #[.int .i64 n, .int .i64 m] w fun e w' => e = .returned (.int .i64 (n % m)) ∧ ∃ k, w' = w.drewN k := by
  refine (fault_pick.calls n m (n % m) w ?_).mono fun e w' ⟨h1, h2⟩ => ⟨h1, h2.out⟩
  unfold fault_pick.f
  rw [if_neg (by omega), if_neg (by omega)]
  have h1 := Int.tmod_lt_of_pos n (show 0 < m by omega)
  have h2 := Int.lt_tmod_of_pos n (show 0 < m by omega)
  have e2 : wrap64 (Int.tmod n m + m) = Int.tmod n m + m := by unfold wrap64; omega
  rw [e2, tmod_twice _ _ (by omega)]

theorem pick_none (n m : Int) (w : World) (hm : m ≤ 0) :
    Calls Try.prog 77 #[.int .i64 n, .int .i64 m] w fun e w' => e = .returned (.int .i64 (-1)) ∧ ∃ k, w' = w.drewN k := by
  refine (fault_pick.calls n m (-1) w ?_).mono fun e w' ⟨h1, h2⟩ => ⟨h1, h2.out⟩
  unfold fault_pick.f
  rw [if_pos hm]

/-- fault.done, no frame -/
def doneB (h n : Int) (text base : ByteArray) : ByteArray :=
  if h % 7 = 1 then base
  else if h % 7 = 2 then base.extract 0 (n % (base.size + 1)).toNat
  else if h % 7 = 3 then Sp.ofL (Sp.clean (Sp.toL text))
  else if h % 7 = 4 then Sp.ofL (Sp.clean (if base.size = 0 then Sp.toL base else Sp.turn (Sp.toL base) (n % base.size).toNat))
  else ⟨#[]⟩

set_option maxRecDepth 100000 in
set_option maxHeartbeats 4000000 in
theorem done_0 (c0 c1 c2 c3 c4 : Int) (A0 : Option Addr) (n0 cp0 : Nat) (h n : Int) (text base : ByteArray) (r s : Int) (w : World) (hh : h % 7 = 0) :
    Calls Try.prog 78 #[.agg #[.int .i64 c0, .int .i64 c1, .int .i64 c2, .int .i64 c3, .int .i64 c4, .slice A0 n0 cp0], .agg #[.int .i64 h, .int .i64 n, .string text], .int .i64 r, .int .i64 s, .string base] w fun e w' => e = .returned (.string ⟨#[]⟩) ∧ Below w.heap.size w w' := by
  go_enter Try.func78, Try.ntmps78
  go_wp2_with (go_at_call 77; (with_reducible refine (pick_calls _ _ _ (by decide)).mono ?_); rintro e w1 ⟨rfl, q, rfl⟩; try rw [hh])
  go_ret
  exact ⟨rfl, by repeat (first | exact Below.refl _ _ | apply below_alloc | apply pw_below_drewN)⟩

set_option maxRecDepth 100000 in
set_option maxHeartbeats 4000000 in
theorem done_1 (c0 c1 c2 c3 c4 : Int) (A0 : Option Addr) (n0 cp0 : Nat) (h n : Int) (text base : ByteArray) (r s : Int) (w : World) (hh : h % 7 = 1) :
    Calls Try.prog 78 #[.agg #[.int .i64 c0, .int .i64 c1, .int .i64 c2, .int .i64 c3, .int .i64 c4, .slice A0 n0 cp0], .agg #[.int .i64 h, .int .i64 n, .string text], .int .i64 r, .int .i64 s, .string base] w fun e w' => e = .returned (.string base) ∧ Below w.heap.size w w' := by
  go_enter Try.func78, Try.ntmps78
  go_wp2_with (go_at_call 77; (with_reducible refine (pick_calls _ _ _ (by decide)).mono ?_); rintro e w1 ⟨rfl, q, rfl⟩; try rw [hh])
  go_ret
  exact ⟨rfl, by repeat (first | exact Below.refl _ _ | apply below_alloc | apply pw_below_drewN)⟩

set_option maxRecDepth 100000 in
set_option maxHeartbeats 4000000 in
theorem done_3 (c0 c1 c2 c3 c4 : Int) (A0 : Option Addr) (n0 cp0 : Nat) (h n : Int) (text base t : ByteArray) (r s : Int) (w : World) (hh : h % 7 = 3) (ht : sym_Clean.f text = some t) :
    Calls Try.prog 78 #[.agg #[.int .i64 c0, .int .i64 c1, .int .i64 c2, .int .i64 c3, .int .i64 c4, .slice A0 n0 cp0], .agg #[.int .i64 h, .int .i64 n, .string text], .int .i64 r, .int .i64 s, .string base] w fun e w' => e = .returned (.string t) ∧ Below w.heap.size w w' := by
  have HT := Lib.hid ht
  clear ht
  go_enter Try.func78, Try.ntmps78
  go_wp2_with (first | (go_at_call 77; (with_reducible refine (pick_calls _ _ _ (by decide)).mono ?_); rintro e w1 ⟨rfl, q, rfl⟩; try rw [hh]) | (go_at_call 99; (with_reducible refine (sym_Clean.calls _ _ _ HT.out).mono ?_); rintro e w1 ⟨rfl, hB⟩; have HB := Lib.hid hB; clear hB))
  go_ret
  refine ⟨rfl, below_step ?_ HB.out⟩
  repeat (first | exact Below.refl _ _ | apply below_alloc | apply pw_below_drewN)

set_option maxRecDepth 100000 in
set_option maxHeartbeats 4000000 in
theorem done_2 (c0 c1 c2 c3 c4 : Int) (A0 : Option Addr) (n0 cp0 : Nat) (h n : Int) (text base : ByteArray) (r s : Int) (w : World) (hh : h % 7 = 2) (hb : base.size < 4611686018427387904) :
    Calls Try.prog 78 #[.agg #[.int .i64 c0, .int .i64 c1, .int .i64 c2, .int .i64 c3, .int .i64 c4, .slice A0 n0 cp0], .agg #[.int .i64 h, .int .i64 n, .string text], .int .i64 r, .int .i64 s, .string base] w fun e w' => e = .returned (.string (base.extract 0 (n % (base.size + 1)).toNat)) ∧ Below w.heap.size w w' := by
  have h0 : 0 ≤ n % ((base.size : Int) + 1) := Int.emod_nonneg _ (by omega)
  have h1 : n % ((base.size : Int) + 1) < (base.size : Int) + 1 := Int.emod_lt_of_pos _ (by omega)
  obtain ⟨k, hk⟩ := Int.eq_ofNat_of_zero_le h0
  have h2 : k ≤ base.size := by omega
  rw [hk, Int.toNat_natCast]
  have HK := Lib.hid hk
  clear hk h0 h1
  go_enter Try.func78, Try.ntmps78
  go_wp2_with (go_at_call 77; (with_reducible refine (pick_calls _ _ _ ⟨by omega, by omega⟩).mono ?_); rintro e w1 ⟨rfl, q, rfl⟩; first | rw [hh] | rw [HK.out] | skip)
  go_ret
  exact ⟨rfl, by repeat (first | exact Below.refl _ _ | apply below_alloc | apply pw_below_drewN)⟩

set_option maxRecDepth 100000 in
set_option maxHeartbeats 4000000 in
theorem done_4 (c0 c1 c2 c3 c4 : Int) (A0 : Option Addr) (n0 cp0 : Nat) (h n : Int) (text base t u : ByteArray) (r s : Int) (w : World) (hh : h % 7 = 4) (hb : base.size < 4611686018427387904) (k : Int) (hp : ∀ w : World, Calls Try.prog 77 #[.int .i64 n, .int .i64 base.size] w fun e w' => e = .returned (.int .i64 k) ∧ ∃ q, w' = w.drewN q) (ht : sym_Turn.f base k = some u) (hc : sym_Clean.f u = some t) :
    Calls Try.prog 78 #[.agg #[.int .i64 c0, .int .i64 c1, .int .i64 c2, .int .i64 c3, .int .i64 c4, .slice A0 n0 cp0], .agg #[.int .i64 h, .int .i64 n, .string text], .int .i64 r, .int .i64 s, .string base] w fun e w' => e = .returned (.string t) ∧ Below w.heap.size w w' := by
  have HT := Lib.hid ht
  have HC := Lib.hid hc
  have HP := Lib.hid hp
  clear ht hc hp
  go_enter Try.func78, Try.ntmps78
  go_wp2_with (first | (go_at_call 77; first | ((with_reducible refine (HP.out _).mono ?_); rintro e w1 ⟨rfl, q, rfl⟩) | ((with_reducible refine (pick_calls _ _ _ (by decide)).mono ?_); rintro e w1 ⟨rfl, q, rfl⟩; try rw [hh])) | (go_at_call 100; (with_reducible refine (sym_Turn.calls _ _ _ _ HT.out).mono ?_); rintro e w1 ⟨rfl, hB⟩; have HB := Lib.hid hB; clear hB) | (go_at_call 99; (with_reducible refine (sym_Clean.calls _ _ _ HC.out).mono ?_); rintro e w2 ⟨rfl, hB⟩; have HB2 := Lib.hid hB; clear hB))
  go_ret
  refine ⟨rfl, below_step ?_ HB2.out⟩
  refine below_step ?_ HB.out
  repeat (first | exact Below.refl _ _ | apply below_alloc | apply pw_below_drewN)

theorem done_any (c0 c1 c2 c3 c4 : Int) (A0 : Option Addr) (n0 cp0 : Nat) (h n : Int) (text base : ByteArray) (r s : Int) (w : World) (hh : h % 7 ≠ 5 ∧ h % 7 ≠ 6) (hb : base.size < 4611686018427387904) (ht : text.size < 4611686018427387904) :
    Calls Try.prog 78 #[.agg #[.int .i64 c0, .int .i64 c1, .int .i64 c2, .int .i64 c3, .int .i64 c4, .slice A0 n0 cp0], .agg #[.int .i64 h, .int .i64 n, .string text], .int .i64 r, .int .i64 s, .string base] w fun e w' => e = .returned (.string (doneB h n text base)) ∧ Below w.heap.size w w' := by
  have h0 := Int.emod_nonneg h (show (7 : Int) ≠ 0 by decide)
  have h7 := Int.emod_lt_of_pos h (show (0 : Int) < 7 by decide)
  have hcases : h % 7 = 0 ∨ h % 7 = 1 ∨ h % 7 = 2 ∨ h % 7 = 3 ∨ h % 7 = 4 := by omega
  unfold doneB
  rcases hcases with e | e | e | e | e
  all_goals rw [e]
  · exact done_0 c0 c1 c2 c3 c4 A0 n0 cp0 h n text base r s w e
  · exact done_1 c0 c1 c2 c3 c4 A0 n0 cp0 h n text base r s w e
  · exact done_2 c0 c1 c2 c3 c4 A0 n0 cp0 h n text base r s w e hb
  · exact done_3 c0 c1 c2 c3 c4 A0 n0 cp0 h n text base _ r s w e (by unfold sym_Clean.f; rw [if_pos (by omega)]; simp)
  · by_cases hz : base.size = 0
    · refine done_4 c0 c1 c2 c3 c4 A0 n0 cp0 h n text base _ (if base.size = 0 then base else Sp.ofL (Sp.turn (Sp.toL base) (n % base.size).toNat)) r s w e hb (-1) (fun w => pick_none _ _ _ (by omega)) (by unfold sym_Turn.f; rw [if_pos (by omega), if_pos (Or.inl (by omega)), if_pos hz]) ?_
      unfold sym_Clean.f
      rw [if_pos hz, if_pos (by omega)]
      simp [hz]
    · have hk := Int.emod_nonneg n (show (base.size : Int) ≠ 0 by omega)
      have hk' := Int.emod_lt_of_pos n (show (0 : Int) < base.size by omega)
      refine done_4 c0 c1 c2 c3 c4 A0 n0 cp0 h n text base _ (Sp.ofL (Sp.turn (Sp.toL base) (n % base.size).toNat)) r s w e hb (n % base.size) (fun w => pick_calls _ _ _ (by omega)) (by unfold sym_Turn.f; rw [if_pos (by omega), if_neg (by omega)]) ?_
      unfold sym_Clean.f
      rw [if_pos (by rw [sz_ofL, turn_len, Sp.toL_length]; omega), Sp.toL_ofL]
      simp [hz]
end Go.Proofs.Ytkelibikjkgohaa.P

namespace Go.Proofs.Ytkelibikjkgohaa.P
set_option linter.unusedVariables false
open Go.RowKit Go.Proofs.YtkelibikjkgohaaW.PrintWords Go.Proofs.YtkelibikjkgohaaW.PrintLast Go.Proofs.YtkelibikjkgohaaW.PrintMore

/-- what conf.Check allows -/
def confOk (n pi e g first : Int) (l : List Int) : Prop :=
  (6 ≤ n ∧ n ≤ 12) ∧ (0 ≤ e ∧ e ≤ 100) ∧ (0 ≤ g ∧ g ≤ 100) ∧ (0 ≤ first ∧ first ≤ 65535) ∧ (4 * (e + g + 1) ≤ pi ∧ pi ≤ 10000) ∧ l.length ≤ 3 ∧ ∀ a ∈ l, -1 ≤ a ∧ a < n
instance (n pi e g first : Int) (l : List Int) : Decidable (confOk n pi e g first l) := by unfold confOk; infer_instance

def conf_Check.f (a0_0 a0_1 a0_2 a0_3 a0_4 : Int) (l0_5 : List Int) : Option Int := if confOk a0_0 a0_1 a0_2 a0_3 a0_4 l0_5 then some 0 else none

theorem conf_within_yes (n a b : Int) (w : World) (h1 : a ≤ n) (h2 : n ≤ b) : Calls Try.prog 96 #[.int .i64 n, .int .i64 a, .int .i64 b] w fun e w' => e = .returned (.bool true) ∧ w' = w := by
  have k1 : decide (a ≤ n) = true := decide_eq_true h1
  have k2 : decide (n ≤ b) = true := decide_eq_true h2
  go_enter Try.func96, Try.ntmps96
  go_wp2
  go_ret
  exact ⟨rfl, rfl⟩

theorem conf_lit_no (a N : Int) (g : Nat) (w : World) (hc : w.cell? ⟨g, 0, none⟩ = some (.int .i64 N)) (hN : 0 ≤ N ∧ N ≤ 12) (h1 : -1 ≤ a) (h2 : a < N) :
    Calls Try.prog 98 #[.int .i64 a, .pointer (some ⟨g, 0, none⟩)] w fun e w' => e = .returned (.bool false) ∧ w' = w := by
  obtain ⟨n0, n1⟩ := hN
  go_enter Try.func98, Try.ntmps98
  go_wp2_with (go_at_call 96; (with_reducible refine (conf_within_yes _ _ _ _ (by omega) (by omega)).mono ?_); rintro e w1 ⟨rfl, rfl⟩)
  go_ret
  exact ⟨rfl, rfl⟩

set_option maxHeartbeats 400000 in
theorem conf_index_no (A : Option Addr) (c : Nat) (l : List Int) (N : Int) (g : Nat) (w : World) (hr : Kd.C (Kd.int .i64) w A l.length l) (hl : l.length ≤ 3) (hc : w.cell? ⟨g, 0, none⟩ = some (.int .i64 N)) (hN : 0 ≤ N ∧ N ≤ 12) (ha : ∀ a ∈ l, -1 ≤ a ∧ a < N) :
    Calls Try.prog 117 #[.slice A l.length c, .func (Fn.func 98) #[] #[.pointer (some ⟨g, 0, none⟩)]] w fun e w' => e = .returned (.int .i64 (-1)) ∧ w' = w := by
  have HR := Lib.hid hr
  have HA := Lib.hid ha
  have HC := Lib.hid hc
  have HN := Lib.hid hN
  clear hr ha hc hN
  go_enter Try.func117, Try.ntmps117
  go_wp2
  go_loop [8] (fun t => ∃ k : Nat, k ≤ l.length ∧ t = .int .i64 k) (fun t => l.length - (intOf t).toNat)
  case atStart => exact ⟨0, by omega, rfl⟩
  case round =>
    obtain ⟨k, hk, rfl⟩ := hrel
    by_cases hlt : k < l.length
    · obtain ⟨ad, e1, hx⟩ := Kd.at_int HR.out (k : Int) (by omega) (by omega)
      cases e1
      have hrd : rd l (k : Int) = l[k] := by simp [rd, hlt]
      rw [hrd, Int.toNat_natCast] at hx
      have hm := HA.out l[k] (List.getElem_mem hlt)
      obtain ⟨m1, m2⟩ := hm
      clear hrd
      generalize l[k] = a at *
      go_wp2_with (go_at_call 98; (with_reducible refine (conf_lit_no _ N g _ HC.out HN.out m1 m2).mono ?_); rintro e w1 ⟨rfl, rfl⟩)
      go_round
      case rel => exact ⟨k + 1, by omega, by go_num⟩
      case measure => simp [intOf]; omega
    · go_wp2
      go_ret
      exact ⟨rfl, rfl⟩

theorem conf_contains_no (A : Option Addr) (c : Nat) (l : List Int) (N : Int) (g : Nat) (w : World) (hr : Kd.C (Kd.int .i64) w A l.length l) (hl : l.length ≤ 3) (hc : w.cell? ⟨g, 0, none⟩ = some (.int .i64 N)) (hN : 0 ≤ N ∧ N ≤ 12) (ha : ∀ a ∈ l, -1 ≤ a ∧ a < N) :
    Calls Try.prog 97 #[.slice A l.length c, .func (Fn.func 98) #[] #[.pointer (some ⟨g, 0, none⟩)]] w fun e w' => e = .returned (.bool false) ∧ w' = w := by
  have HI := Lib.hid (conf_index_no A c l N g w hr hl hc hN ha)
  clear hr hl hc hN ha
  go_enter Try.func97, Try.ntmps97
  go_wp2_with (go_at_call 117; (with_reducible refine HI.out.mono ?_); rintro e w1 ⟨rfl, rfl⟩)
  go_ret
  exact ⟨rfl, rfl⟩

theorem idx4_0 (x0 x1 x2 x3 : Value) (W : World) : (Instr.index 141 (.agg #[x0, x1, x2, x3]) (.int .i64 0)).run Try.prog W = .ok x0 W := by kernel_rfl
theorem idx4_1 (x0 x1 x2 x3 : Value) (W : World) : (Instr.index 141 (.agg #[x0, x1, x2, x3]) (.int .i64 1)).run Try.prog W = .ok x1 W := by kernel_rfl
theorem idx4_2 (x0 x1 x2 x3 : Value) (W : World) : (Instr.index 141 (.agg #[x0, x1, x2, x3]) (.int .i64 2)).run Try.prog W = .ok x2 W := by kernel_rfl
theorem idx4_3 (x0 x1 x2 x3 : Value) (W : World) : (Instr.index 141 (.agg #[x0, x1, x2, x3]) (.int .i64 3)).run Try.prog W = .ok x3 W := by kernel_rfl

set_option maxRecDepth 100000 in
set_option maxHeartbeats 1000000 in
theorem conf_Check.calls (a0_0 a0_1 a0_2 a0_3 a0_4 : Int) (A0_5 : Option Addr) (c0_5 : Nat) (l0_5 : List Int) (r : Int) (w : World) (hr0_5 : Kd.C (Kd.int .i64) w A0_5 l0_5.length l0_5) (hc0_5 : l0_5.length ≤ c0_5) (h : conf_Check.f a0_0 a0_1 a0_2 a0_3 a0_4 l0_5 = some r) :
    Calls Try.prog 76 #[.agg #[.int .i64 a0_0, .int .i64 a0_1, .int .i64 a0_2, .int .i64 a0_3, .int .i64 a0_4, .slice A0_5 l0_5.length c0_5]] w fun e w' => e = .returned (.int .i64 r) ∧ Below w.heap.size w w' := by
  unfold conf_Check.f at h
  split at h
  case isFalse => exact absurd h (by simp)
  rename_i hk
  obtain rfl := Option.some.inj h
  clear h
  obtain ⟨⟨hn, hn'⟩, ⟨he, he'⟩, ⟨hg, hg'⟩, ⟨hf, hf'⟩, ⟨hp, hp'⟩, hl, ha⟩ := hk
  have HA := Lib.hid ha
  clear ha
  have HR := Lib.hid hr0_5
  clear hr0_5
  go_enter Try.func76, Try.ntmps76
  go_wp2
  go_loopw [18] (fun t wr => ∃ k m : Nat, k ≤ 4 ∧ t = .int .i64 k ∧ wr = (((w.alloc (Obj.cells #[Value.int IntKind.i64 a0_0, Value.int IntKind.i64 a0_1, Value.int IntKind.i64 a0_2, Value.int IntKind.i64 a0_3, Value.int IntKind.i64 a0_4, Value.slice A0_5 l0_5.length c0_5] 24)).alloc (Obj.cells #[Value.int IntKind.i64 6, Value.int IntKind.i64 0, Value.int IntKind.i64 0, Value.int IntKind.i64 0] 141)).alloc (Obj.cells #[Value.int IntKind.i64 12, Value.int IntKind.i64 100, Value.int IntKind.i64 100, Value.int IntKind.i64 65535] 141)).drewN m) (fun t _ => 4 - (intOf t).toNat)
  case atStart => exact ⟨0, 0, by omega, rfl, rfl⟩
  case round =>
    obtain ⟨k, m, hk, rfl, rfl⟩ := hrel
    by_cases hlt : k < 4
    · have h4 : k = 0 ∨ k = 1 ∨ k = 2 ∨ k = 3 := by omega
      rcases h4 with rfl | rfl | rfl | rfl
      all_goals
        have i0 := idx4_0
        have i1 := idx4_1
        have i2 := idx4_2
        have i3 := idx4_3
        go_wp2
        go_quiet ((go_at_call 96; exact quiet_add_same (conf_within_yes _ _ _ _ (by omega) (by omega))))
        clear i0 i1 i2 i3
        go_wp2
        go_roundw
        case rel => first | exact ⟨1, _, by omega, rfl, rfl⟩ | exact ⟨2, _, by omega, rfl, rfl⟩ | exact ⟨3, _, by omega, rfl, rfl⟩ | exact ⟨4, _, by omega, rfl, rfl⟩
        case measure => simp [intOf]
    · obtain rfl : k = 4 := by omega
      go_wp2_with (go_at_call 96; (with_reducible refine (conf_within_yes _ _ _ _ (by omega) (by omega)).mono ?_); rintro e w1 ⟨rfl, rfl⟩)
      refine (conf_contains_no _ _ _ a0_0 _ _ (Kd.C_below HR.out ?hb) hl ?hcell ⟨by omega, by omega⟩ HA.out).mono ?_
      case hb => exact pw_below_drewN (below_alloc (below_alloc (below_alloc (Below.refl _ _) _) _) _) _
      case hcell => go_simp
      rintro e w1 ⟨rfl, rfl⟩
      go_wp2
      go_ret
      exact ⟨rfl, pw_below_drewN (below_alloc (below_alloc (below_alloc (Below.refl _ _) _) _) _) _⟩
end Go.Proofs.Ytkelibikjkgohaa.P

namespace Go.Proofs.Ytkelibikjkgohaa.P
set_option linter.unusedVariables false
open Go.RowKit Go.Proofs.YtkelibikjkgohaaW.PrintWords Go.Proofs.YtkelibikjkgohaaW.PrintLast Go.Proofs.YtkelibikjkgohaaW.PrintMore

def EBox (c : S24) (A0 : Option Addr) (cp0 : Nat) (f : S48) (A4 : Option Addr) (cp4 : Nat) (A5 : Option Addr) (cp5 : Nat) (w W : World) : Prop := W.cell? ⟨w.heap.size, 0, none⟩ = some (.int .i64 c.f0) ∧ W.cell? ⟨w.heap.size, 1, none⟩ = some (.int .i64 c.f1) ∧ W.cell? ⟨w.heap.size, 2, none⟩ = some (.int .i64 c.f2) ∧ W.cell? ⟨w.heap.size, 3, none⟩ = some (.int .i64 c.f3) ∧ W.cell? ⟨w.heap.size, 4, none⟩ = some (.int .i64 c.f4) ∧ W.cell? ⟨w.heap.size, 5, none⟩ = some (.slice A0 c.f5.length cp0) ∧ W.cell? ⟨w.heap.size + 1, 0, none⟩ = some (.int .i64 f.f0) ∧ W.cell? ⟨w.heap.size + 1, 1, none⟩ = some (.int .i64 f.f1) ∧ W.cell? ⟨w.heap.size + 1, 2, none⟩ = some (.int .i64 f.f2) ∧ W.cell? ⟨w.heap.size + 1, 3, none⟩ = some (.int .i64 f.f3) ∧ W.cell? ⟨w.heap.size + 1, 4, none⟩ = some (.slice A4 f.f4.length cp4) ∧ W.cell? ⟨w.heap.size + 1, 5, none⟩ = some (.slice A5 f.f5.length cp5)

theorem ebox_then (c : S24) (A0 : Option Addr) (cp0 : Nat) (f : S48) (A4 : Option Addr) (cp4 : Nat) (A5 : Option Addr) (cp5 : Nat) (w w1 : World) (hb : Below ((w.alloc (.cells #[.int .i64 c.f0, .int .i64 c.f1, .int .i64 c.f2, .int .i64 c.f3, .int .i64 c.f4, .slice A0 c.f5.length cp0] 24)).alloc (.cells #[.int .i64 f.f0, .int .i64 f.f1, .int .i64 f.f2, .int .i64 f.f3, .slice A4 f.f4.length cp4, .slice A5 f.f5.length cp5] 48)).heap.size ((w.alloc (.cells #[.int .i64 c.f0, .int .i64 c.f1, .int .i64 c.f2, .int .i64 c.f3, .int .i64 c.f4, .slice A0 c.f5.length cp0] 24)).alloc (.cells #[.int .i64 f.f0, .int .i64 f.f1, .int .i64 f.f2, .int .i64 f.f3, .slice A4 f.f4.length cp4, .slice A5 f.f5.length cp5] 48)) w1) : EBox c A0 cp0 f A4 cp4 A5 cp5 w w1 := by
  have q0 := blk_below (blk_alloc (blk_new w (.cells #[.int .i64 c.f0, .int .i64 c.f1, .int .i64 c.f2, .int .i64 c.f3, .int .i64 c.f4, .slice A0 c.f5.length cp0] 24)) (.cells #[.int .i64 f.f0, .int .i64 f.f1, .int .i64 f.f2, .int .i64 f.f3, .slice A4 f.f4.length cp4, .slice A5 f.f5.length cp5] 48)) hb
  have q1 := blk_below (blk_new (w.alloc (.cells #[.int .i64 c.f0, .int .i64 c.f1, .int .i64 c.f2, .int .i64 c.f3, .int .i64 c.f4, .slice A0 c.f5.length cp0] 24)) (.cells #[.int .i64 f.f0, .int .i64 f.f1, .int .i64 f.f2, .int .i64 f.f3, .slice A4 f.f4.length cp4, .slice A5 f.f5.length cp5] 48)) hb
  have e : (w.alloc (.cells #[.int .i64 c.f0, .int .i64 c.f1, .int .i64 c.f2, .int .i64 c.f3, .int .i64 c.f4, .slice A0 c.f5.length cp0] 24)).heap.size = w.heap.size + 1 := by simp
  rw [e] at q1
  exact ⟨(blk_cell q0 0).trans rfl, (blk_cell q0 1).trans rfl, (blk_cell q0 2).trans rfl, (blk_cell q0 3).trans rfl, (blk_cell q0 4).trans rfl, (blk_cell q0 5).trans rfl, (blk_cell q1 0).trans rfl, (blk_cell q1 1).trans rfl, (blk_cell q1 2).trans rfl, (blk_cell q1 3).trans rfl, (blk_cell q1 4).trans rfl, (blk_cell q1 5).trans rfl⟩

theorem EBox.below {c : S24} {A0 : Option Addr} {cp0 : Nat} {f : S48} {A4 : Option Addr} {cp4 : Nat} {A5 : Option Addr} {cp5 : Nat} {w w1 w2 : World} (h : EBox c A0 cp0 f A4 cp4 A5 cp5 w w1) (hb : Below w1.heap.size w1 w2) : EBox c A0 cp0 f A4 cp4 A5 cp5 w w2 := by
  obtain ⟨z0, z1, z2, z3, z4, z5, z6, z7, z8, z9, z10, z11⟩ := h
  exact ⟨pw_cell_below hb z0, pw_cell_below hb z1, pw_cell_below hb z2, pw_cell_below hb z3, pw_cell_below hb z4, pw_cell_below hb z5, pw_cell_below hb z6, pw_cell_below hb z7, pw_cell_below hb z8, pw_cell_below hb z9, pw_cell_below hb z10, pw_cell_below hb z11⟩
theorem EBox.below2 {c : S24} {A0 : Option Addr} {cp0 : Nat} {f : S48} {A4 : Option Addr} {cp4 : Nat} {A5 : Option Addr} {cp5 : Nat} {w w1 w2 : World} {m : Nat} (h : EBox c A0 cp0 f A4 cp4 A5 cp5 w w1) (hb : Below (w1.drewN m).heap.size (w1.drewN m) w2) : EBox c A0 cp0 f A4 cp4 A5 cp5 w w2 := by
  obtain ⟨z0, z1, z2, z3, z4, z5, z6, z7, z8, z9, z10, z11⟩ := h
  exact ⟨pw_cell_below hb z0, pw_cell_below hb z1, pw_cell_below hb z2, pw_cell_below hb z3, pw_cell_below hb z4, pw_cell_below hb z5, pw_cell_below hb z6, pw_cell_below hb z7, pw_cell_below hb z8, pw_cell_below hb z9, pw_cell_below hb z10, pw_cell_below hb z11⟩

def emitK (f : S48) (r s b : Int) : Int := (17 * r + 5 * s + b) % f.f4.length

set_option maxRecDepth 100000 in
set_option maxHeartbeats 4000000 in
theorem emit_off (c : S24) (A0 : Option Addr) (cp0 : Nat) (f : S48) (A4 : Option Addr) (cp4 : Nat) (A5 : Option Addr) (cp5 : Nat) (r s a b : Int) (base : ByteArray) (w : World) (hc : confOk c.f0 c.f1 c.f2 c.f3 c.f4 c.f5) (hr0 : Kd.C (Kd.int .i64) w A0 c.f5.length c.f5) (hc0 : c.f5.length ≤ cp0) (hk : f.f0 = 2 → (6 ≤ c.f0 ∧ c.f0 ≤ 12) ∧ (0 ≤ a ∧ a < c.f0) ∧ (0 ≤ b ∧ b < c.f0)) (hh : hitsB c.f0 f.f0 f.f1 a b = false) :
    Calls Try.prog 38 #[.agg #[.int .i64 c.f0, .int .i64 c.f1, .int .i64 c.f2, .int .i64 c.f3, .int .i64 c.f4, .slice A0 c.f5.length cp0], .agg #[.int .i64 f.f0, .int .i64 f.f1, .int .i64 f.f2, .int .i64 f.f3, .slice A4 f.f4.length cp4, .slice A5 f.f5.length cp5], .int .i64 r, .int .i64 s, .int .i64 a, .int .i64 b, .string base] w fun e w' => e = .returned (.string (base)) ∧ Below w.heap.size w w' := by
  have HV := Lib.hid hh
  clear hh
  have HC := Lib.hid (show conf_Check.f c.f0 c.f1 c.f2 c.f3 c.f4 c.f5 = some 0 from by unfold conf_Check.f; rw [if_pos hc])
  have HR0 := Lib.hid hr0
  have HH := Lib.hid (fun W => hits_any c.f0 c.f1 c.f2 c.f3 c.f4 A0 c.f5.length cp0 f.f0 f.f1 f.f2 f.f3 A4 f.f4.length cp4 A5 f.f5.length cp5 a b W hk)
  clear hc hr0 hk
  go_enter Try.func38, Try.ntmps38
  go_wp2_with fail
  refine (conf_Check.calls _ _ _ _ _ _ _ _ 0 _ (Kd.C_below HR0.out ?hb) hc0 HC.out).mono ?_
  case hb => exact below_alloc (below_alloc (Below.refl _ _) _) _
  rintro e w1 ⟨rfl, hb⟩
  obtain ⟨z0, z1, z2, z3, z4, z5, z6, z7, z8, z9, z10, z11⟩ := ebox_then c A0 cp0 f A4 cp4 A5 cp5 w w1 hb
  have B1 := Lib.hid (below_step (below_alloc (below_alloc (Below.refl w.heap.size w) _) _) hb)
  clear hb
  go_wp2_with (go_at_call 40; (with_reducible refine (HH.out _).mono ?_); rintro e w2 ⟨rfl, hb⟩; rw [HV.out]; have ZZ := Lib.hid (EBox.below (show EBox c A0 cp0 f A4 cp4 A5 cp5 w w1 from ⟨z0, z1, z2, z3, z4, z5, z6, z7, z8, z9, z10, z11⟩) hb); have B2 := Lib.hid (below_step B1.out hb); clear hb z0 z1 z2 z3 z4 z5 z6 z7 z8 z9 z10 z11; obtain ⟨z0, z1, z2, z3, z4, z5, z6, z7, z8, z9, z10, z11⟩ := ZZ.out; clear ZZ)
  go_ret
  exact ⟨rfl, B2.out⟩

set_option maxRecDepth 100000 in
set_option maxHeartbeats 4000000 in
theorem emit_past (c : S24) (A0 : Option Addr) (cp0 : Nat) (f : S48) (A4 : Option Addr) (cp4 : Nat) (A5 : Option Addr) (cp5 : Nat) (r s a b : Int) (base : ByteArray) (w : World) (hc : confOk c.f0 c.f1 c.f2 c.f3 c.f4 c.f5) (hr0 : Kd.C (Kd.int .i64) w A0 c.f5.length c.f5) (hc0 : c.f5.length ≤ cp0) (hk : f.f0 = 2 → (6 ≤ c.f0 ∧ c.f0 ≤ 12) ∧ (0 ≤ a ∧ a < c.f0) ∧ (0 ≤ b ∧ b < c.f0)) (hh : hitsB c.f0 f.f0 f.f1 a b = true) (h3 : f.f3 ≤ r) :
    Calls Try.prog 38 #[.agg #[.int .i64 c.f0, .int .i64 c.f1, .int .i64 c.f2, .int .i64 c.f3, .int .i64 c.f4, .slice A0 c.f5.length cp0], .agg #[.int .i64 f.f0, .int .i64 f.f1, .int .i64 f.f2, .int .i64 f.f3, .slice A4 f.f4.length cp4, .slice A5 f.f5.length cp5], .int .i64 r, .int .i64 s, .int .i64 a, .int .i64 b, .string base] w fun e w' => e = .returned (.string (base)) ∧ Below w.heap.size w w' := by
  have HV := Lib.hid hh
  have k3 : decide (f.f3 ≤ r) = true := decide_eq_true h3
  clear hh h3
  have HC := Lib.hid (show conf_Check.f c.f0 c.f1 c.f2 c.f3 c.f4 c.f5 = some 0 from by unfold conf_Check.f; rw [if_pos hc])
  have HR0 := Lib.hid hr0
  have HH := Lib.hid (fun W => hits_any c.f0 c.f1 c.f2 c.f3 c.f4 A0 c.f5.length cp0 f.f0 f.f1 f.f2 f.f3 A4 f.f4.length cp4 A5 f.f5.length cp5 a b W hk)
  clear hc hr0 hk
  go_enter Try.func38, Try.ntmps38
  go_wp2_with fail
  refine (conf_Check.calls _ _ _ _ _ _ _ _ 0 _ (Kd.C_below HR0.out ?hb) hc0 HC.out).mono ?_
  case hb => exact below_alloc (below_alloc (Below.refl _ _) _) _
  rintro e w1 ⟨rfl, hb⟩
  obtain ⟨z0, z1, z2, z3, z4, z5, z6, z7, z8, z9, z10, z11⟩ := ebox_then c A0 cp0 f A4 cp4 A5 cp5 w w1 hb
  have B1 := Lib.hid (below_step (below_alloc (below_alloc (Below.refl w.heap.size w) _) _) hb)
  clear hb
  go_wp2_with (go_at_call 40; (with_reducible refine (HH.out _).mono ?_); rintro e w2 ⟨rfl, hb⟩; rw [HV.out]; have ZZ := Lib.hid (EBox.below (show EBox c A0 cp0 f A4 cp4 A5 cp5 w w1 from ⟨z0, z1, z2, z3, z4, z5, z6, z7, z8, z9, z10, z11⟩) hb); have B2 := Lib.hid (below_step B1.out hb); clear hb z0 z1 z2 z3 z4 z5 z6 z7 z8 z9 z10 z11; obtain ⟨z0, z1, z2, z3, z4, z5, z6, z7, z8, z9, z10, z11⟩ := ZZ.out; clear ZZ)
  go_ret
  exact ⟨rfl, B2.out⟩

set_option maxRecDepth 100000 in
set_option maxHeartbeats 4000000 in
theorem emit_early (c : S24) (A0 : Option Addr) (cp0 : Nat) (f : S48) (A4 : Option Addr) (cp4 : Nat) (A5 : Option Addr) (cp5 : Nat) (r s a b : Int) (base : ByteArray) (w : World) (hc : confOk c.f0 c.f1 c.f2 c.f3 c.f4 c.f5) (hr0 : Kd.C (Kd.int .i64) w A0 c.f5.length c.f5) (hc0 : c.f5.length ≤ cp0) (hk : f.f0 = 2 → (6 ≤ c.f0 ∧ c.f0 ≤ 12) ∧ (0 ≤ a ∧ a < c.f0) ∧ (0 ≤ b ∧ b < c.f0)) (hh : hitsB c.f0 f.f0 f.f1 a b = true) (h3 : ¬ f.f3 ≤ r) (h2 : r < f.f2) :
    Calls Try.prog 38 #[.agg #[.int .i64 c.f0, .int .i64 c.f1, .int .i64 c.f2, .int .i64 c.f3, .int .i64 c.f4, .slice A0 c.f5.length cp0], .agg #[.int .i64 f.f0, .int .i64 f.f1, .int .i64 f.f2, .int .i64 f.f3, .slice A4 f.f4.length cp4, .slice A5 f.f5.length cp5], .int .i64 r, .int .i64 s, .int .i64 a, .int .i64 b, .string base] w fun e w' => e = .returned (.string (⟨#[]⟩)) ∧ Below w.heap.size w w' := by
  have HV := Lib.hid hh
  have k3 : decide (f.f3 ≤ r) = false := decide_eq_false h3
  have k2 : decide (r < f.f2) = true := decide_eq_true h2
  clear hh h3 h2
  have HC := Lib.hid (show conf_Check.f c.f0 c.f1 c.f2 c.f3 c.f4 c.f5 = some 0 from by unfold conf_Check.f; rw [if_pos hc])
  have HR0 := Lib.hid hr0
  have HH := Lib.hid (fun W => hits_any c.f0 c.f1 c.f2 c.f3 c.f4 A0 c.f5.length cp0 f.f0 f.f1 f.f2 f.f3 A4 f.f4.length cp4 A5 f.f5.length cp5 a b W hk)
  clear hc hr0 hk
  go_enter Try.func38, Try.ntmps38
  go_wp2_with fail
  refine (conf_Check.calls _ _ _ _ _ _ _ _ 0 _ (Kd.C_below HR0.out ?hb) hc0 HC.out).mono ?_
  case hb => exact below_alloc (below_alloc (Below.refl _ _) _) _
  rintro e w1 ⟨rfl, hb⟩
  obtain ⟨z0, z1, z2, z3, z4, z5, z6, z7, z8, z9, z10, z11⟩ := ebox_then c A0 cp0 f A4 cp4 A5 cp5 w w1 hb
  have B1 := Lib.hid (below_step (below_alloc (below_alloc (Below.refl w.heap.size w) _) _) hb)
  clear hb
  go_wp2_with (go_at_call 40; (with_reducible refine (HH.out _).mono ?_); rintro e w2 ⟨rfl, hb⟩; rw [HV.out]; have ZZ := Lib.hid (EBox.below (show EBox c A0 cp0 f A4 cp4 A5 cp5 w w1 from ⟨z0, z1, z2, z3, z4, z5, z6, z7, z8, z9, z10, z11⟩) hb); have B2 := Lib.hid (below_step B1.out hb); clear hb z0 z1 z2 z3 z4 z5 z6 z7 z8 z9 z10 z11; obtain ⟨z0, z1, z2, z3, z4, z5, z6, z7, z8, z9, z10, z11⟩ := ZZ.out; clear ZZ)
  go_ret
  exact ⟨rfl, B2.out⟩

set_option maxRecDepth 100000 in
set_option maxHeartbeats 4000000 in
theorem emit_none (c : S24) (A0 : Option Addr) (cp0 : Nat) (f : S48) (A4 : Option Addr) (cp4 : Nat) (A5 : Option Addr) (cp5 : Nat) (r s a b : Int) (base : ByteArray) (w : World) (hc : confOk c.f0 c.f1 c.f2 c.f3 c.f4 c.f5) (hr0 : Kd.C (Kd.int .i64) w A0 c.f5.length c.f5) (hc0 : c.f5.length ≤ cp0) (hk : f.f0 = 2 → (6 ≤ c.f0 ∧ c.f0 ≤ 12) ∧ (0 ≤ a ∧ a < c.f0) ∧ (0 ≤ b ∧ b < c.f0)) (hh : hitsB c.f0 f.f0 f.f1 a b = true) (h3 : ¬ f.f3 ≤ r) (h2 : ¬ r < f.f2) (hn : f.f4.length = 0) (hrs : (0 ≤ r ∧ r ≤ 1000000) ∧ (0 ≤ s ∧ s ≤ 1000000) ∧ (0 ≤ b ∧ b ≤ 1000000)) :
    Calls Try.prog 38 #[.agg #[.int .i64 c.f0, .int .i64 c.f1, .int .i64 c.f2, .int .i64 c.f3, .int .i64 c.f4, .slice A0 c.f5.length cp0], .agg #[.int .i64 f.f0, .int .i64 f.f1, .int .i64 f.f2, .int .i64 f.f3, .slice A4 f.f4.length cp4, .slice A5 f.f5.length cp5], .int .i64 r, .int .i64 s, .int .i64 a, .int .i64 b, .string base] w fun e w' => e = .returned (.string (⟨#[]⟩)) ∧ Below w.heap.size w w' := by
  have HV := Lib.hid hh
  have k3 : decide (f.f3 ≤ r) = false := decide_eq_false h3
  have k2 : decide (r < f.f2) = false := decide_eq_false h2
  have HN := Lib.hid hn
  clear hh h3 h2 hn
  have HC := Lib.hid (show conf_Check.f c.f0 c.f1 c.f2 c.f3 c.f4 c.f5 = some 0 from by unfold conf_Check.f; rw [if_pos hc])
  have HR0 := Lib.hid hr0
  have HH := Lib.hid (fun W => hits_any c.f0 c.f1 c.f2 c.f3 c.f4 A0 c.f5.length cp0 f.f0 f.f1 f.f2 f.f3 A4 f.f4.length cp4 A5 f.f5.length cp5 a b W hk)
  clear hc hr0 hk
  go_enter Try.func38, Try.ntmps38
  go_wp2_with fail
  refine (conf_Check.calls _ _ _ _ _ _ _ _ 0 _ (Kd.C_below HR0.out ?hb) hc0 HC.out).mono ?_
  case hb => exact below_alloc (below_alloc (Below.refl _ _) _) _
  rintro e w1 ⟨rfl, hb⟩
  obtain ⟨z0, z1, z2, z3, z4, z5, z6, z7, z8, z9, z10, z11⟩ := ebox_then c A0 cp0 f A4 cp4 A5 cp5 w w1 hb
  have B1 := Lib.hid (below_step (below_alloc (below_alloc (Below.refl w.heap.size w) _) _) hb)
  clear hb
  go_wp2_with (first | (go_at_call 40; (with_reducible refine (HH.out _).mono ?_); rintro e w2 ⟨rfl, hb⟩; rw [HV.out]; have ZZ := Lib.hid (EBox.below (show EBox c A0 cp0 f A4 cp4 A5 cp5 w w1 from ⟨z0, z1, z2, z3, z4, z5, z6, z7, z8, z9, z10, z11⟩) hb); have B2 := Lib.hid (below_step B1.out hb); clear hb z0 z1 z2 z3 z4 z5 z6 z7 z8 z9 z10 z11; obtain ⟨z0, z1, z2, z3, z4, z5, z6, z7, z8, z9, z10, z11⟩ := ZZ.out; clear ZZ) | (go_at_call 77; (with_reducible refine (pick_none _ _ _ (by have := HN.out; omega)).mono ?_); rintro e w3 ⟨rfl, q, rfl⟩))
  go_ret
  exact ⟨rfl, pw_below_drewN B2.out _⟩

theorem rdAct (l : List S55) (k : Nat) (h : k < l.length) : rd_T55 l (k : Int) = l[k] := by
  simp [rd_T55, h]

set_option maxRecDepth 100000 in
set_option maxHeartbeats 4000000 in
theorem emit_act (c : S24) (A0 : Option Addr) (cp0 : Nat) (f : S48) (A4 : Option Addr) (cp4 : Nat) (A5 : Option Addr) (cp5 : Nat) (r s a b : Int) (base : ByteArray) (w : World) (hc : confOk c.f0 c.f1 c.f2 c.f3 c.f4 c.f5) (hr0 : Kd.C (Kd.int .i64) w A0 c.f5.length c.f5) (hc0 : c.f5.length ≤ cp0) (hk : f.f0 = 2 → (6 ≤ c.f0 ∧ c.f0 ≤ 12) ∧ (0 ≤ a ∧ a < c.f0) ∧ (0 ≤ b ∧ b < c.f0)) (hh : hitsB c.f0 f.f0 f.f1 a b = true) (h3 : ¬ f.f3 ≤ r) (h2 : ¬ r < f.f2) (hrs : (0 ≤ r ∧ r ≤ 1000000) ∧ (0 ≤ s ∧ s ≤ 1000000) ∧ (0 ≤ b ∧ b ≤ 1000000)) (hr4 : Kd.C k55 w A4 f.f4.length f.f4) (hl : 0 < f.f4.length ∧ f.f4.length ≤ 1000000) (k : Nat) (hkk : emitK f r s b = k) (D : ByteArray)
    (hd : ∀ W, Below w.heap.size w W → Calls Try.prog 78 #[.agg #[.int .i64 c.f0, .int .i64 c.f1, .int .i64 c.f2, .int .i64 c.f3, .int .i64 c.f4, .slice A0 c.f5.length cp0], .agg #[.int .i64 (rd_T55 f.f4 k).f0, .int .i64 (rd_T55 f.f4 k).f1, .string (rd_T55 f.f4 k).f2], .int .i64 r, .int .i64 s, .string base] W fun e w' => e = .returned (.string D) ∧ Below W.heap.size W w') :
    Calls Try.prog 38 #[.agg #[.int .i64 c.f0, .int .i64 c.f1, .int .i64 c.f2, .int .i64 c.f3, .int .i64 c.f4, .slice A0 c.f5.length cp0], .agg #[.int .i64 f.f0, .int .i64 f.f1, .int .i64 f.f2, .int .i64 f.f3, .slice A4 f.f4.length cp4, .slice A5 f.f5.length cp5], .int .i64 r, .int .i64 s, .int .i64 a, .int .i64 b, .string base] w fun e w' => e = .returned (.string (D)) ∧ Below w.heap.size w w' := by
  have HV := Lib.hid hh
  have k3 : decide (f.f3 ≤ r) = false := decide_eq_false h3
  have k2 : decide (r < f.f2) = false := decide_eq_false h2
  have HK := Lib.hid hkk
  have hkl : (k : Int) < f.f4.length := by unfold emitK at hkk; rw [← hkk]; exact Int.emod_lt_of_pos _ (by omega)
  have HD := Lib.hid hd
  obtain ⟨ad, eA, cA⟩ := at_T55 hr4 k (by omega) hkl
  subst eA
  have HA := Lib.hid cA
  generalize rd_T55 f.f4 k = act at *
  have kd : decide ((k : Int) < 0) = false := decide_eq_false (by omega)
  clear hh h3 h2 hkk hd hr4 cA
  have HC := Lib.hid (show conf_Check.f c.f0 c.f1 c.f2 c.f3 c.f4 c.f5 = some 0 from by unfold conf_Check.f; rw [if_pos hc])
  have HR0 := Lib.hid hr0
  have HH := Lib.hid (fun W => hits_any c.f0 c.f1 c.f2 c.f3 c.f4 A0 c.f5.length cp0 f.f0 f.f1 f.f2 f.f3 (some ad) f.f4.length cp4 A5 f.f5.length cp5 a b W hk)
  clear hc hr0 hk
  go_enter Try.func38, Try.ntmps38
  go_wp2_with fail
  refine (conf_Check.calls _ _ _ _ _ _ _ _ 0 _ (Kd.C_below HR0.out ?hb) hc0 HC.out).mono ?_
  case hb => exact below_alloc (below_alloc (Below.refl _ _) _) _
  rintro e w1 ⟨rfl, hb⟩
  obtain ⟨z0, z1, z2, z3, z4, z5, z6, z7, z8, z9, z10, z11⟩ := ebox_then c A0 cp0 f (some ad) cp4 A5 cp5 w w1 hb
  have B1 := Lib.hid (below_step (below_alloc (below_alloc (Below.refl w.heap.size w) _) _) hb)
  clear hb
  go_wp2_with (first | (go_at_call 40; (with_reducible refine (HH.out _).mono ?_); rintro e w2 ⟨rfl, hb⟩; rw [HV.out]; have ZZ := Lib.hid (EBox.below (show EBox c A0 cp0 f (some ad) cp4 A5 cp5 w w1 from ⟨z0, z1, z2, z3, z4, z5, z6, z7, z8, z9, z10, z11⟩) hb); have B2 := Lib.hid (below_step B1.out hb); clear hb z0 z1 z2 z3 z4 z5 z6 z7 z8 z9 z10 z11; obtain ⟨z0, z1, z2, z3, z4, z5, z6, z7, z8, z9, z10, z11⟩ := ZZ.out; clear ZZ) | (go_at_call 77; (with_reducible refine (pick_calls _ _ _ ⟨by omega, by omega⟩).mono ?_); rintro e w3 ⟨rfl, q, rfl⟩; rw [show (17 * r + 5 * s + b) % (f.f4.length : Int) = k from HK.out]))
  obtain ⟨a0, a1, a2⟩ := HA.out
  rw [Int.toNat_natCast] at a0 a1 a2
  have b0 := pw_cell_below B2.out a0
  have b1 := pw_cell_below B2.out a1
  have b2 := pw_cell_below B2.out a2
  clear a0 a1 a2
  have hk0 : (0 : Int) ≤ k := by omega
  go_region_held3 (fun w' => w'.cell? ⟨w.heap.size, 0, none⟩ = some (.int .i64 c.f0) ∧ w'.cell? ⟨w.heap.size, 1, none⟩ = some (.int .i64 c.f1) ∧ w'.cell? ⟨w.heap.size, 2, none⟩ = some (.int .i64 c.f2) ∧ w'.cell? ⟨w.heap.size, 3, none⟩ = some (.int .i64 c.f3) ∧ w'.cell? ⟨w.heap.size, 4, none⟩ = some (.int .i64 c.f4) ∧ w'.cell? ⟨w.heap.size, 5, none⟩ = some (.slice A0 c.f5.length cp0) ∧ w'.cell? ⟨w.heap.size + 1, 0, none⟩ = some (.int .i64 f.f0) ∧ w'.cell? ⟨w.heap.size + 1, 1, none⟩ = some (.int .i64 f.f1) ∧ w'.cell? ⟨w.heap.size + 1, 2, none⟩ = some (.int .i64 f.f2) ∧ w'.cell? ⟨w.heap.size + 1, 3, none⟩ = some (.int .i64 f.f3) ∧ w'.cell? ⟨w.heap.size + 1, 4, none⟩ = some (.slice (some ad) f.f4.length cp4) ∧ w'.cell? ⟨w.heap.size + 1, 5, none⟩ = some (.slice A5 f.f5.length cp5) ∧ w'.cell? (ad.add (k * 3)) = some (.int .i64 act.f0) ∧ w'.cell? ⟨(ad.add (k * 3)).block, (ad.add (k * 3)).off + 1, none⟩ = some (.int .i64 act.f1) ∧ w'.cell? ⟨(ad.add (k * 3)).block, (ad.add (k * 3)).off + 2, none⟩ = some (.string act.f2))
    (go_keep)
    ((go_at_call 78; refine (HD.out _ ?hb).mono ?_; (case hb => exact pw_below_drewN B2.out _); rintro e w4 ⟨rfl, hb⟩; have HB4 := Lib.hid hb; clear hb; have ZZ := Lib.hid (EBox.below2 (show EBox c A0 cp0 f (some ad) cp4 A5 cp5 w w2 from ⟨z0, z1, z2, z3, z4, z5, z6, z7, z8, z9, z10, z11⟩) HB4.out); have y0 := pw_cell_below HB4.out b0; have y1 := pw_cell_below HB4.out b1; have y2 := pw_cell_below HB4.out b2; clear b0 b1 b2 z0 z1 z2 z3 z4 z5 z6 z7 z8 z9 z10 z11; obtain ⟨z0, z1, z2, z3, z4, z5, z6, z7, z8, z9, z10, z11⟩ := ZZ.out; clear ZZ))
  go_wp2
  go_ret
  exact ⟨rfl, below_step (pw_below_drewN B2.out _) HB4.out⟩
end Go.Proofs.Ytkelibikjkgohaa.P

namespace Go.Proofs.Ytkelibikjkgohaa.P
open Go.RowKit Go.Proofs.YtkelibikjkgohaaW.PrintWords Go.Proofs.YtkelibikjkgohaaW.PrintLast Go.Proofs.YtkelibikjkgohaaW.PrintMore
attribute [local go_sem] max2_int min2_int max_two min_two max_three min_three max_four min_four
set_option linter.unusedVariables false
set_option linter.unusedSimpArgs false
/-! ### frame_value: function 137 -/
def frame_value.f (a0_0 : Int) (a0_1 : Int) : Option (Bool) := if a0_0 = 1 then (if a0_1 = 0 then (some true) else (if a0_0 = 2 then (if a0_1 ≥ 0 then (some (decide (a0_1 ≤ 255))) else (some false)) else (some false))) else (if a0_0 = 2 then (if a0_1 ≥ 0 then (some (decide (a0_1 ≤ 255))) else (some false)) else (some false))
set_option maxHeartbeats 8000000 in
set_option maxRecDepth 100000 in
theorem frame_value.calls (a0_0 : Int) (a0_1 : Int) (r : Bool) (w : World) (h : frame_value.f a0_0 a0_1 = some r) :
    Calls Try.prog 137 #[.agg #[.int .i64 a0_0, .int .i64 a0_1]] w fun e w' => e = .returned (.bool r) ∧ Below w.heap.size w w' := by
  have hu26 := Try.underlying26
  have HB := Aside0.mk (Below.refl w.heap.size w)
  have H : (if a0_0 = 1 then (if a0_1 = 0 then (some true) else (if a0_0 = 2 then (if a0_1 ≥ 0 then (some (decide (a0_1 ≤ 255))) else (some false)) else (some false))) else (if a0_0 = 2 then (if a0_1 ≥ 0 then (some (decide (a0_1 ≤ 255))) else (some false)) else (some false))) = some r := h
  clear h
  by_cases c2 : a0_0 = 1
  · rw [if_pos c2] at H
    have c2b0 : (a0_0 == 1) = true := beq_iff_eq.mpr c2
    have c2b1 : (a0_0 != 1) = false := bne_eq_false_iff_eq.mpr c2
    clear c2
    by_cases c3 : a0_1 = 0
    · rw [if_pos c3] at H
      have c3b0 : (a0_1 == 0) = true := beq_iff_eq.mpr c3
      have c3b1 : (a0_1 != 0) = false := bne_eq_false_iff_eq.mpr c3
      clear c3
      obtain rfl := Option.some.inj H
      go_enter Try.func137, Try.ntmps137
      go_wp2_with (first | ((with_reducible refine gate_dst (N := 1) rfl ?_); refine box_event ?hg (N := 1) ?hd (cs := #[.int .i64 a0_0, .int .i64 a0_1]) (t := 26) ?hr ?_; (case hd => rfl); (case hg => rfl); (case hr => first | (go_simp; done) | (go_simp; rfl)); intro gb1 hg w4 hbox hb; have n0_ := Aside0.mk (below_step (by repeat (first | (with_reducible first | exact HB.out | apply below_alloc | apply pw_below_drewN | apply below_drew1) | exact HB.out)) hb); have n1_ := Aside0.mk (hbox); have n2_ := Aside0.mk ((by rw [hg]; exact (below_size (by repeat (first | (with_reducible first | exact HB.out | apply below_alloc | apply pw_below_drewN | apply below_drew1) | exact HB.out))) : w.heap.size ≤ gb1)); have n3_ := Aside0.mk ((by rw [hg]; exact (below_size (by repeat (first | (with_reducible first | exact HB.out | apply below_alloc | apply pw_below_drewN | apply below_drew1) | exact HB.out))) : w.heap.size ≤ gb1)); clear HB; have HB := n0_; have BK1 := n1_; have GW1 := n2_; have GE1 := n3_; clear n0_ n1_ n2_ n3_; clear hb hbox hg; have hcz5_0 : w4.cell? ⟨gb1, 0, none⟩ = some (.int .i64 a0_0) := (blk_cell BK1.out 0).trans rfl; have hcz5_1 : w4.cell? ⟨gb1, 1, none⟩ = some (.int .i64 a0_1) := (blk_cell BK1.out 1).trans rfl; have hfz5_0 := blk_frozen BK1.out 0; have hfz5_1 := blk_frozen BK1.out 1))
      go_ret
      exact ⟨by first | rfl | (simp [errW_none, errW_some] <;> rfl) | (simp [*, errW_none, errW_some] <;> rfl), by repeat (first | (with_reducible first | exact HB.out | apply below_alloc | apply pw_below_drewN | apply below_drew1 | refine below_set ?_ GE1.out) | exact HB.out)⟩
    · rw [if_neg c3] at H
      have c3b0 : (a0_1 == 0) = false := beq_eq_false_iff_ne.mpr c3
      have c3b1 : (a0_1 != 0) = true := bne_iff_ne.mpr c3
      by_cases c6 : a0_0 = 2
      · rw [if_pos c6] at H
        have c6b0 : (a0_0 == 2) = true := beq_iff_eq.mpr c6
        have c6b1 : (a0_0 != 2) = false := bne_eq_false_iff_eq.mpr c6
        clear c6
        by_cases c7 : a0_1 ≥ 0
        · rw [if_pos c7] at H
          have c7b0 : decide (0 ≤ a0_1) = true := decide_eq_true c7
          clear c7
          obtain rfl := Option.some.inj H
          go_enter Try.func137, Try.ntmps137
          go_wp2_with (first | ((with_reducible refine gate_dst (N := 1) rfl ?_); refine box_event ?hg (N := 1) ?hd (cs := #[.int .i64 a0_0, .int .i64 a0_1]) (t := 26) ?hr ?_; (case hd => rfl); (case hg => rfl); (case hr => first | (go_simp; done) | (go_simp; rfl)); intro gb1 hg w8 hbox hb; have n0_ := Aside0.mk (below_step (by repeat (first | (with_reducible first | exact HB.out | apply below_alloc | apply pw_below_drewN | apply below_drew1) | exact HB.out)) hb); have n1_ := Aside0.mk (hbox); have n2_ := Aside0.mk ((by rw [hg]; exact (below_size (by repeat (first | (with_reducible first | exact HB.out | apply below_alloc | apply pw_below_drewN | apply below_drew1) | exact HB.out))) : w.heap.size ≤ gb1)); have n3_ := Aside0.mk ((by rw [hg]; exact (below_size (by repeat (first | (with_reducible first | exact HB.out | apply below_alloc | apply pw_below_drewN | apply below_drew1) | exact HB.out))) : w.heap.size ≤ gb1)); clear HB; have HB := n0_; have BK1 := n1_; have GW1 := n2_; have GE1 := n3_; clear n0_ n1_ n2_ n3_; clear hb hbox hg; have hcz9_0 : w8.cell? ⟨gb1, 0, none⟩ = some (.int .i64 a0_0) := (blk_cell BK1.out 0).trans rfl; have hcz9_1 : w8.cell? ⟨gb1, 1, none⟩ = some (.int .i64 a0_1) := (blk_cell BK1.out 1).trans rfl; have hfz9_0 := blk_frozen BK1.out 0; have hfz9_1 := blk_frozen BK1.out 1))
          go_ret
          exact ⟨by first | rfl | (simp [errW_none, errW_some] <;> rfl) | (simp [*, errW_none, errW_some] <;> rfl), by repeat (first | (with_reducible first | exact HB.out | apply below_alloc | apply pw_below_drewN | apply below_drew1 | refine below_set ?_ GE1.out) | exact HB.out)⟩
        · rw [if_neg c7] at H
          have c7b0 : decide (0 ≤ a0_1) = false := decide_eq_false c7
          clear c7
          obtain rfl := Option.some.inj H
          go_enter Try.func137, Try.ntmps137
          go_wp2_with (first | ((with_reducible refine gate_dst (N := 1) rfl ?_); refine box_event ?hg (N := 1) ?hd (cs := #[.int .i64 a0_0, .int .i64 a0_1]) (t := 26) ?hr ?_; (case hd => rfl); (case hg => rfl); (case hr => first | (go_simp; done) | (go_simp; rfl)); intro gb1 hg w10 hbox hb; have n0_ := Aside0.mk (below_step (by repeat (first | (with_reducible first | exact HB.out | apply below_alloc | apply pw_below_drewN | apply below_drew1) | exact HB.out)) hb); have n1_ := Aside0.mk (hbox); have n2_ := Aside0.mk ((by rw [hg]; exact (below_size (by repeat (first | (with_reducible first | exact HB.out | apply below_alloc | apply pw_below_drewN | apply below_drew1) | exact HB.out))) : w.heap.size ≤ gb1)); have n3_ := Aside0.mk ((by rw [hg]; exact (below_size (by repeat (first | (with_reducible first | exact HB.out | apply below_alloc | apply pw_below_drewN | apply below_drew1) | exact HB.out))) : w.heap.size ≤ gb1)); clear HB; have HB := n0_; have BK1 := n1_; have GW1 := n2_; have GE1 := n3_; clear n0_ n1_ n2_ n3_; clear hb hbox hg; have hcz11_0 : w10.cell? ⟨gb1, 0, none⟩ = some (.int .i64 a0_0) := (blk_cell BK1.out 0).trans rfl; have hcz11_1 : w10.cell? ⟨gb1, 1, none⟩ = some (.int .i64 a0_1) := (blk_cell BK1.out 1).trans rfl; have hfz11_0 := blk_frozen BK1.out 0; have hfz11_1 := blk_frozen BK1.out 1))
          go_ret
          exact ⟨by first | rfl | (simp [errW_none, errW_some] <;> rfl) | (simp [*, errW_none, errW_some] <;> rfl), by repeat (first | (with_reducible first | exact HB.out | apply below_alloc | apply pw_below_drewN | apply below_drew1 | refine below_set ?_ GE1.out) | exact HB.out)⟩
      · rw [if_neg c6] at H
        have c6b0 : (a0_0 == 2) = false := beq_eq_false_iff_ne.mpr c6
        have c6b1 : (a0_0 != 2) = true := bne_iff_ne.mpr c6
        obtain rfl := Option.some.inj H
        go_enter Try.func137, Try.ntmps137
        go_wp2_with (first | ((with_reducible refine gate_dst (N := 1) rfl ?_); refine box_event ?hg (N := 1) ?hd (cs := #[.int .i64 a0_0, .int .i64 a0_1]) (t := 26) ?hr ?_; (case hd => rfl); (case hg => rfl); (case hr => first | (go_simp; done) | (go_simp; rfl)); intro gb1 hg w12 hbox hb; have n0_ := Aside0.mk (below_step (by repeat (first | (with_reducible first | exact HB.out | apply below_alloc | apply pw_below_drewN | apply below_drew1) | exact HB.out)) hb); have n1_ := Aside0.mk (hbox); have n2_ := Aside0.mk ((by rw [hg]; exact (below_size (by repeat (first | (with_reducible first | exact HB.out | apply below_alloc | apply pw_below_drewN | apply below_drew1) | exact HB.out))) : w.heap.size ≤ gb1)); have n3_ := Aside0.mk ((by rw [hg]; exact (below_size (by repeat (first | (with_reducible first | exact HB.out | apply below_alloc | apply pw_below_drewN | apply below_drew1) | exact HB.out))) : w.heap.size ≤ gb1)); clear HB; have HB := n0_; have BK1 := n1_; have GW1 := n2_; have GE1 := n3_; clear n0_ n1_ n2_ n3_; clear hb hbox hg; have hcz13_0 : w12.cell? ⟨gb1, 0, none⟩ = some (.int .i64 a0_0) := (blk_cell BK1.out 0).trans rfl; have hcz13_1 : w12.cell? ⟨gb1, 1, none⟩ = some (.int .i64 a0_1) := (blk_cell BK1.out 1).trans rfl; have hfz13_0 := blk_frozen BK1.out 0; have hfz13_1 := blk_frozen BK1.out 1))
        go_ret
        exact ⟨by first | rfl | (simp [errW_none, errW_some] <;> rfl) | (simp [*, errW_none, errW_some] <;> rfl), by repeat (first | (with_reducible first | exact HB.out | apply below_alloc | apply pw_below_drewN | apply below_drew1 | refine below_set ?_ GE1.out) | exact HB.out)⟩
  · rw [if_neg c2] at H
    have c2b0 : (a0_0 == 1) = false := beq_eq_false_iff_ne.mpr c2
    have c2b1 : (a0_0 != 1) = true := bne_iff_ne.mpr c2
    by_cases c14 : a0_0 = 2
    · rw [if_pos c14] at H
      have c14b0 : (a0_0 == 2) = true := beq_iff_eq.mpr c14
      have c14b1 : (a0_0 != 2) = false := bne_eq_false_iff_eq.mpr c14
      clear c14
      by_cases c15 : a0_1 ≥ 0
      · rw [if_pos c15] at H
        have c15b0 : decide (0 ≤ a0_1) = true := decide_eq_true c15
        clear c15
        obtain rfl := Option.some.inj H
        go_enter Try.func137, Try.ntmps137
        go_wp2_with (first | ((with_reducible refine gate_dst (N := 1) rfl ?_); refine box_event ?hg (N := 1) ?hd (cs := #[.int .i64 a0_0, .int .i64 a0_1]) (t := 26) ?hr ?_; (case hd => rfl); (case hg => rfl); (case hr => first | (go_simp; done) | (go_simp; rfl)); intro gb1 hg w16 hbox hb; have n0_ := Aside0.mk (below_step (by repeat (first | (with_reducible first | exact HB.out | apply below_alloc | apply pw_below_drewN | apply below_drew1) | exact HB.out)) hb); have n1_ := Aside0.mk (hbox); have n2_ := Aside0.mk ((by rw [hg]; exact (below_size (by repeat (first | (with_reducible first | exact HB.out | apply below_alloc | apply pw_below_drewN | apply below_drew1) | exact HB.out))) : w.heap.size ≤ gb1)); have n3_ := Aside0.mk ((by rw [hg]; exact (below_size (by repeat (first | (with_reducible first | exact HB.out | apply below_alloc | apply pw_below_drewN | apply below_drew1) | exact HB.out))) : w.heap.size ≤ gb1)); clear HB; have HB := n0_; have BK1 := n1_; have GW1 := n2_; have GE1 := n3_; clear n0_ n1_ n2_ n3_; clear hb hbox hg; have hcz17_0 : w16.cell? ⟨gb1, 0, none⟩ = some (.int .i64 a0_0) := (blk_cell BK1.out 0).trans rfl; have hcz17_1 : w16.cell? ⟨gb1, 1, none⟩ = some (.int .i64 a0_1) := (blk_cell BK1.out 1).trans rfl; have hfz17_0 := blk_frozen BK1.out 0; have hfz17_1 := blk_frozen BK1.out 1))
        go_ret
        exact ⟨by first | rfl | (simp [errW_none, errW_some] <;> rfl) | (simp [*, errW_none, errW_some] <;> rfl), by repeat (first | (with_reducible first | exact HB.out | apply below_alloc | apply pw_below_drewN | apply below_drew1 | refine below_set ?_ GE1.out) | exact HB.out)⟩
      · rw [if_neg c15] at H
        have c15b0 : decide (0 ≤ a0_1) = false := decide_eq_false c15
        clear c15
        obtain rfl := Option.some.inj H
        go_enter Try.func137, Try.ntmps137
        go_wp2_with (first | ((with_reducible refine gate_dst (N := 1) rfl ?_); refine box_event ?hg (N := 1) ?hd (cs := #[.int .i64 a0_0, .int .i64 a0_1]) (t := 26) ?hr ?_; (case hd => rfl); (case hg => rfl); (case hr => first | (go_simp; done) | (go_simp; rfl)); intro gb1 hg w18 hbox hb; have n0_ := Aside0.mk (below_step (by repeat (first | (with_reducible first | exact HB.out | apply below_alloc | apply pw_below_drewN | apply below_drew1) | exact HB.out)) hb); have n1_ := Aside0.mk (hbox); have n2_ := Aside0.mk ((by rw [hg]; exact (below_size (by repeat (first | (with_reducible first | exact HB.out | apply below_alloc | apply pw_below_drewN | apply below_drew1) | exact HB.out))) : w.heap.size ≤ gb1)); have n3_ := Aside0.mk ((by rw [hg]; exact (below_size (by repeat (first | (with_reducible first | exact HB.out | apply below_alloc | apply pw_below_drewN | apply below_drew1) | exact HB.out))) : w.heap.size ≤ gb1)); clear HB; have HB := n0_; have BK1 := n1_; have GW1 := n2_; have GE1 := n3_; clear n0_ n1_ n2_ n3_; clear hb hbox hg; have hcz19_0 : w18.cell? ⟨gb1, 0, none⟩ = some (.int .i64 a0_0) := (blk_cell BK1.out 0).trans rfl; have hcz19_1 : w18.cell? ⟨gb1, 1, none⟩ = some (.int .i64 a0_1) := (blk_cell BK1.out 1).trans rfl; have hfz19_0 := blk_frozen BK1.out 0; have hfz19_1 := blk_frozen BK1.out 1))
        go_ret
        exact ⟨by first | rfl | (simp [errW_none, errW_some] <;> rfl) | (simp [*, errW_none, errW_some] <;> rfl), by repeat (first | (with_reducible first | exact HB.out | apply below_alloc | apply pw_below_drewN | apply below_drew1 | refine below_set ?_ GE1.out) | exact HB.out)⟩
    · rw [if_neg c14] at H
      have c14b0 : (a0_0 == 2) = false := beq_eq_false_iff_ne.mpr c14
      have c14b1 : (a0_0 != 2) = true := bne_iff_ne.mpr c14
      obtain rfl := Option.some.inj H
      go_enter Try.func137, Try.ntmps137
      go_wp2_with (first | ((with_reducible refine gate_dst (N := 1) rfl ?_); refine box_event ?hg (N := 1) ?hd (cs := #[.int .i64 a0_0, .int .i64 a0_1]) (t := 26) ?hr ?_; (case hd => rfl); (case hg => rfl); (case hr => first | (go_simp; done) | (go_simp; rfl)); intro gb1 hg w20 hbox hb; have n0_ := Aside0.mk (below_step (by repeat (first | (with_reducible first | exact HB.out | apply below_alloc | apply pw_below_drewN | apply below_drew1) | exact HB.out)) hb); have n1_ := Aside0.mk (hbox); have n2_ := Aside0.mk ((by rw [hg]; exact (below_size (by repeat (first | (with_reducible first | exact HB.out | apply below_alloc | apply pw_below_drewN | apply below_drew1) | exact HB.out))) : w.heap.size ≤ gb1)); have n3_ := Aside0.mk ((by rw [hg]; exact (below_size (by repeat (first | (with_reducible first | exact HB.out | apply below_alloc | apply pw_below_drewN | apply below_drew1) | exact HB.out))) : w.heap.size ≤ gb1)); clear HB; have HB := n0_; have BK1 := n1_; have GW1 := n2_; have GE1 := n3_; clear n0_ n1_ n2_ n3_; clear hb hbox hg; have hcz21_0 : w20.cell? ⟨gb1, 0, none⟩ = some (.int .i64 a0_0) := (blk_cell BK1.out 0).trans rfl; have hcz21_1 : w20.cell? ⟨gb1, 1, none⟩ = some (.int .i64 a0_1) := (blk_cell BK1.out 1).trans rfl; have hfz21_0 := blk_frozen BK1.out 0; have hfz21_1 := blk_frozen BK1.out 1))
      go_ret
      exact ⟨by first | rfl | (simp [errW_none, errW_some] <;> rfl) | (simp [*, errW_none, errW_some] <;> rfl), by repeat (first | (with_reducible first | exact HB.out | apply below_alloc | apply pw_below_drewN | apply below_drew1 | refine below_set ?_ GE1.out) | exact HB.out)⟩

end Go.Proofs.Ytkelibikjkgohaa.P

namespace Go.Proofs.Ytkelibikjkgohaa.P
open Go.RowKit Go.Proofs.YtkelibikjkgohaaW.PrintWords Go.Proofs.YtkelibikjkgohaaW.PrintLast Go.Proofs.YtkelibikjkgohaaW.PrintMore
attribute [local go_sem] max2_int min2_int max_two min_two max_three min_three max_four min_four
set_option linter.unusedVariables false
set_option linter.unusedSimpArgs false
theorem eqA26 (d : Nat) (w : World) (x0 y0 : Int) (x1 y1 : Int) :
    (Op.equalIn (d + 2) 26 (.agg #[.int .i64 x0, .int .i64 x1]) (.agg #[.int .i64 y0, .int .i64 y1])).run Try.prog w = .ok (x0 == y0 && (x1 == y1)) w := by
  refine eqA_of Try.underlying26 (by kernel_rfl) ?_
  refine eqf_cons (by rfl) (by go_simp; rfl) (by go_simp; rfl) (by go_simp) ?_
  exact eqf_last (by rfl) (by go_simp; rfl) (by go_simp; rfl) (by go_simp)
end Go.Proofs.Ytkelibikjkgohaa.P

namespace Go.Proofs.Ytkelibikjkgohaa.P
open Go.RowKit Go.Proofs.YtkelibikjkgohaaW.PrintWords Go.Proofs.YtkelibikjkgohaaW.PrintLast Go.Proofs.YtkelibikjkgohaaW.PrintMore
attribute [local go_sem] max2_int min2_int max_two min_two max_three min_three max_four min_four
set_option linter.unusedVariables false
set_option linter.unusedSimpArgs false
attribute [local go_sem high] eqA26
/-! ### frame_empty: function 136 -/
def frame_empty.f (a0_0 : Int) (a0_1 : Int) : Option (Bool) := some (a0_0 == 0 && (a0_1 == 0))
set_option maxHeartbeats 8000000 in
set_option maxRecDepth 100000 in
theorem frame_empty.calls (a0_0 : Int) (a0_1 : Int) (r : Bool) (w : World) (h : frame_empty.f a0_0 a0_1 = some r) :
    Calls Try.prog 136 #[.agg #[.int .i64 a0_0, .int .i64 a0_1]] w fun e w' => e = .returned (.bool r) ∧ Below w.heap.size w w' := by
  have hu26 := Try.underlying26
  have HB := Aside0.mk (Below.refl w.heap.size w)
  have H : (some (a0_0 == 0 && (a0_1 == 0))) = some r := h
  clear h
  obtain rfl := Option.some.inj H
  go_enter Try.func136, Try.ntmps136
  go_wp2_with (first | ((with_reducible refine gate_dst (N := 1) rfl ?_); refine box_event ?hg (N := 1) ?hd (cs := #[.int .i64 a0_0, .int .i64 a0_1]) (t := 26) ?hr ?_; (case hd => rfl); (case hg => rfl); (case hr => first | (go_simp; done) | (go_simp; rfl)); intro gb1 hg w2 hbox hb; have n0_ := Aside0.mk (below_step (by repeat (first | (with_reducible first | exact HB.out | apply below_alloc | apply pw_below_drewN | apply below_drew1) | exact HB.out)) hb); have n1_ := Aside0.mk (hbox); have n2_ := Aside0.mk ((by rw [hg]; exact (below_size (by repeat (first | (with_reducible first | exact HB.out | apply below_alloc | apply pw_below_drewN | apply below_drew1) | exact HB.out))) : w.heap.size ≤ gb1)); have n3_ := Aside0.mk ((by rw [hg]; exact (below_size (by repeat (first | (with_reducible first | exact HB.out | apply below_alloc | apply pw_below_drewN | apply below_drew1) | exact HB.out))) : w.heap.size ≤ gb1)); clear HB; have HB := n0_; have BK1 := n1_; have GW1 := n2_; have GE1 := n3_; clear n0_ n1_ n2_ n3_; clear hb hbox hg; have hcz3_0 : w2.cell? ⟨gb1, 0, none⟩ = some (.int .i64 a0_0) := (blk_cell BK1.out 0).trans rfl; have hcz3_1 : w2.cell? ⟨gb1, 1, none⟩ = some (.int .i64 a0_1) := (blk_cell BK1.out 1).trans rfl; have hfz3_0 := blk_frozen BK1.out 0; have hfz3_1 := blk_frozen BK1.out 1))
  go_ret
  exact ⟨by first | rfl | (simp [errW_none, errW_some] <;> rfl) | (simp [*, errW_none, errW_some] <;> rfl), by repeat (first | (with_reducible first | exact HB.out | apply below_alloc | apply pw_below_drewN | apply below_drew1 | refine below_set ?_ GE1.out) | exact HB.out)⟩

end Go.Proofs.Ytkelibikjkgohaa.P

namespace Go.Proofs.Ytkelibikjkgohaa.P
open Go.RowKit Go.Proofs.YtkelibikjkgohaaW.PrintWords Go.Proofs.YtkelibikjkgohaaW.PrintLast Go.Proofs.YtkelibikjkgohaaW.PrintMore
attribute [local go_sem] max2_int min2_int max_two min_two max_three min_three max_four min_four
set_option linter.unusedVariables false
set_option linter.unusedSimpArgs false
/-! ### conf_Slots: function 120 -/
def conf_Slots.f (a0_0 : Int) (a0_1 : Int) (a0_2 : Int) (a0_3 : Int) (a0_4 : Int) (l0_5 : List Int) : Option (Int) := some (wrap64 (a0_0 + (l0_5.length : Int)))
set_option maxHeartbeats 8000000 in
set_option maxRecDepth 100000 in
theorem conf_Slots.calls (a0_0 : Int) (a0_1 : Int) (a0_2 : Int) (a0_3 : Int) (a0_4 : Int) (A0_5 : Option Addr) (c0_5 : Nat) (l0_5 : List Int) (r : Int) (w : World) (hr0_5 : Kd.C (Kd.int .i64) w A0_5 l0_5.length l0_5) (hc0_5 : l0_5.length ≤ c0_5) (h : conf_Slots.f a0_0 a0_1 a0_2 a0_3 a0_4 l0_5 = some r) :
    Calls Try.prog 120 #[.agg #[.int .i64 a0_0, .int .i64 a0_1, .int .i64 a0_2, .int .i64 a0_3, .int .i64 a0_4, .slice A0_5 l0_5.length c0_5]] w fun e w' => e = .returned (.int .i64 r) ∧ Below w.heap.size w w' := by
  have hu24 := Try.underlying24
  have HR0_5 := Aside0.mk hr0_5
  have HC0_5 := Aside0.mk hc0_5
  clear hr0_5 hc0_5
  have HB := Aside0.mk (Below.refl w.heap.size w)
  have H : (some (wrap64 (a0_0 + (l0_5.length : Int)))) = some r := h
  clear h
  obtain rfl := Option.some.inj H
  go_enter Try.func120, Try.ntmps120
  go_wp2_with (first | ((with_reducible refine gate_dst (N := 1) rfl ?_); refine box_event ?hg (N := 1) ?hd (cs := #[.int .i64 a0_0, .int .i64 a0_1, .int .i64 a0_2, .int .i64 a0_3, .int .i64 a0_4, .slice A0_5 l0_5.length c0_5]) (t := 24) ?hr ?_; (case hd => rfl); (case hg => rfl); (case hr => first | (go_simp; done) | (go_simp; rfl)); intro gb1 hg w2 hbox hb; have n0_ := Aside0.mk (below_step (by repeat (first | (with_reducible first | exact HB.out | apply below_alloc | apply pw_below_drewN | apply below_drew1) | exact HB.out)) hb); have n1_ := Aside0.mk (hbox); have n2_ := Aside0.mk ((by rw [hg]; exact (below_size (by repeat (first | (with_reducible first | exact HB.out | apply below_alloc | apply pw_below_drewN | apply below_drew1) | exact HB.out))) : w.heap.size ≤ gb1)); have n3_ := Aside0.mk ((by rw [hg]; exact (below_size (by repeat (first | (with_reducible first | exact HB.out | apply below_alloc | apply pw_below_drewN | apply below_drew1) | exact HB.out))) : w.heap.size ≤ gb1)); clear HB; have HB := n0_; have BK1 := n1_; have GW1 := n2_; have GE1 := n3_; clear n0_ n1_ n2_ n3_; clear hb hbox hg; have hcz3_0 : w2.cell? ⟨gb1, 0, none⟩ = some (.int .i64 a0_0) := (blk_cell BK1.out 0).trans rfl; have hcz3_1 : w2.cell? ⟨gb1, 1, none⟩ = some (.int .i64 a0_1) := (blk_cell BK1.out 1).trans rfl; have hcz3_2 : w2.cell? ⟨gb1, 2, none⟩ = some (.int .i64 a0_2) := (blk_cell BK1.out 2).trans rfl; have hcz3_3 : w2.cell? ⟨gb1, 3, none⟩ = some (.int .i64 a0_3) := (blk_cell BK1.out 3).trans rfl; have hcz3_4 : w2.cell? ⟨gb1, 4, none⟩ = some (.int .i64 a0_4) := (blk_cell BK1.out 4).trans rfl; have hcz3_5 : w2.cell? ⟨gb1, 5, none⟩ = some (.slice A0_5 l0_5.length c0_5) := (blk_cell BK1.out 5).trans rfl; have hfz3_0 := blk_frozen BK1.out 0; have hfz3_1 := blk_frozen BK1.out 1; have hfz3_2 := blk_frozen BK1.out 2; have hfz3_3 := blk_frozen BK1.out 3; have hfz3_4 := blk_frozen BK1.out 4; have hfz3_5 := blk_frozen BK1.out 5))
  go_ret
  exact ⟨by first | rfl | (simp [errW_none, errW_some] <;> rfl) | (simp [*, errW_none, errW_some] <;> rfl), by repeat (first | (with_reducible first | exact HB.out | apply below_alloc | apply pw_below_drewN | apply below_drew1 | refine below_set ?_ GE1.out) | exact HB.out)⟩

end Go.Proofs.Ytkelibikjkgohaa.P

namespace Go.Proofs.Ytkelibikjkgohaa.P
open Go.RowKit Go.Proofs.YtkelibikjkgohaaW.PrintWords Go.Proofs.YtkelibikjkgohaaW.PrintLast Go.Proofs.YtkelibikjkgohaaW.PrintMore
attribute [local go_sem] max2_int min2_int max_two min_two max_three min_three max_four min_four
set_option linter.unusedVariables false
set_option linter.unusedSimpArgs false
/-! ### frame_echoes: function 114 -/
def frame_echoes.f (a0_0 : Int) (a0_1 : Int) (a0_2 : Int) (a0_3 : Int) (a0_4 : Int) (l0_5 : List Int) (a1 : Int) (a2 : Int) : Option (Int) := if a1 = 3 then (if a2 < a0_0 then ((conf_Slots.f a0_0 a0_1 a0_2 a0_3 a0_4 l0_5).bind fun t2 => (some t2)) else (some 0)) else (some 0)
set_option maxHeartbeats 8000000 in
set_option maxRecDepth 100000 in
theorem frame_echoes.calls (a0_0 : Int) (a0_1 : Int) (a0_2 : Int) (a0_3 : Int) (a0_4 : Int) (A0_5 : Option Addr) (c0_5 : Nat) (l0_5 : List Int) (a1 : Int) (a2 : Int) (r : Int) (w : World) (hr0_5 : Kd.C (Kd.int .i64) w A0_5 l0_5.length l0_5) (hc0_5 : l0_5.length ≤ c0_5) (h : frame_echoes.f a0_0 a0_1 a0_2 a0_3 a0_4 l0_5 a1 a2 = some r) :
    Calls Try.prog 114 #[.agg #[.int .i64 a0_0, .int .i64 a0_1, .int .i64 a0_2, .int .i64 a0_3, .int .i64 a0_4, .slice A0_5 l0_5.length c0_5], .int .i64 a1, .int .i64 a2] w fun e w' => e = .returned (.int .i64 r) ∧ Below w.heap.size w w' := by
  have hu24 := Try.underlying24
  have HR0_5 := Aside0.mk hr0_5
  have HC0_5 := Aside0.mk hc0_5
  clear hr0_5 hc0_5
  have HB := Aside0.mk (Below.refl w.heap.size w)
  have H : (if a1 = 3 then (if a2 < a0_0 then ((conf_Slots.f a0_0 a0_1 a0_2 a0_3 a0_4 l0_5).bind fun t2 => (some t2)) else (some 0)) else (some 0)) = some r := h
  clear h
  by_cases c4 : a1 = 3
  · rw [if_pos c4] at H
    have c4b0 : (a1 == 3) = true := beq_iff_eq.mpr c4
    have c4b1 : (a1 != 3) = false := bne_eq_false_iff_eq.mpr c4
    clear c4
    by_cases c5 : a2 < a0_0
    · rw [if_pos c5] at H
      have c5b0 : decide (a2 < a0_0) = true := decide_eq_true c5
      clear c5
      replace H := Option.bind_eq_some_iff.mp H
      obtain ⟨t2, A60, H⟩ := H
      replace H : (some t2) = some r := H
      have A6 := Aside0.mk A60
      clear A60
      obtain rfl := Option.some.inj H
      go_enter Try.func114, Try.ntmps114
      go_wp2_with (first | ((with_reducible refine gate_dst (N := 3) rfl ?_); refine box_event ?hg (N := 3) ?hd (cs := #[.int .i64 a0_0, .int .i64 a0_1, .int .i64 a0_2, .int .i64 a0_3, .int .i64 a0_4, .slice A0_5 l0_5.length c0_5]) (t := 24) ?hr ?_; (case hd => rfl); (case hg => rfl); (case hr => first | (go_simp; done) | (go_simp; rfl)); intro gb1 hg w7 hbox hb; have n0_ := Aside0.mk (below_step (by repeat (first | (with_reducible first | exact HB.out | apply below_alloc | apply pw_below_drewN | apply below_drew1) | exact HB.out)) hb); have n1_ := Aside0.mk (hbox); have n2_ := Aside0.mk ((by rw [hg]; exact (below_size (by repeat (first | (with_reducible first | exact HB.out | apply below_alloc | apply pw_below_drewN | apply below_drew1) | exact HB.out))) : w.heap.size ≤ gb1)); have n3_ := Aside0.mk ((by rw [hg]; exact (below_size (by repeat (first | (with_reducible first | exact HB.out | apply below_alloc | apply pw_below_drewN | apply below_drew1) | exact HB.out))) : w.heap.size ≤ gb1)); clear HB; have HB := n0_; have BK1 := n1_; have GW1 := n2_; have GE1 := n3_; clear n0_ n1_ n2_ n3_; clear hb hbox hg; have hcz8_0 : w7.cell? ⟨gb1, 0, none⟩ = some (.int .i64 a0_0) := (blk_cell BK1.out 0).trans rfl; have hcz8_1 : w7.cell? ⟨gb1, 1, none⟩ = some (.int .i64 a0_1) := (blk_cell BK1.out 1).trans rfl; have hcz8_2 : w7.cell? ⟨gb1, 2, none⟩ = some (.int .i64 a0_2) := (blk_cell BK1.out 2).trans rfl; have hcz8_3 : w7.cell? ⟨gb1, 3, none⟩ = some (.int .i64 a0_3) := (blk_cell BK1.out 3).trans rfl; have hcz8_4 : w7.cell? ⟨gb1, 4, none⟩ = some (.int .i64 a0_4) := (blk_cell BK1.out 4).trans rfl; have hcz8_5 : w7.cell? ⟨gb1, 5, none⟩ = some (.slice A0_5 l0_5.length c0_5) := (blk_cell BK1.out 5).trans rfl; have hfz8_0 := blk_frozen BK1.out 0; have hfz8_1 := blk_frozen BK1.out 1; have hfz8_2 := blk_frozen BK1.out 2; have hfz8_3 := blk_frozen BK1.out 3; have hfz8_4 := blk_frozen BK1.out 4; have hfz8_5 := blk_frozen BK1.out 5) | ((with_reducible refine gate_callee (f := 120) rfl ?_); refine goesL_ (some 16) rfl rfl Try.func120 (by kernel_rfl) rfl #[.agg #[.int .i64 a0_0, .int .i64 a0_1, .int .i64 a0_2, .int .i64 a0_3, .int .i64 a0_4, .slice A0_5 l0_5.length c0_5]] rfl (by (try simp only [List.map_toArray, List.map_cons, List.map_nil]); first | done | rfl | (simp only [List.length_drop, List.length_take]; rfl)) ?_; (with_reducible refine (conf_Slots.calls a0_0 a0_1 a0_2 a0_3 a0_4 _ _ l0_5 t2 _ ?side1 ?side2 A6.out).mono ?_); (case side1 => repeat (first | exact (Kd.C_below HR0_5.out HB.out) | (with_reducible refine Kd.C_alloc ?_ _) | (with_reducible refine Kd.C_drewN ?_ _) | (with_reducible refine Kd.C_drew ?_))); (case side2 => exact HC0_5.out); rintro e w9 ⟨rfl, hb⟩; refine ⟨_, rfl, ?_⟩; have n0_ := Aside0.mk (blk_below (g := gb1) (o := .cells #[.int .i64 a0_0, .int .i64 a0_1, .int .i64 a0_2, .int .i64 a0_3, .int .i64 a0_4, .slice A0_5 l0_5.length c0_5] 24 (0, 0)) (by (with_reducible repeat (first | refine blk_drewN ?_ _ | refine blk_drew ?_ | refine blk_alloc ?_ _)); exact BK1.out) hb); have n1_ := Aside0.mk (below_step (by repeat (first | (with_reducible first | exact HB.out | apply below_alloc | apply pw_below_drewN | apply below_drew1 | refine below_set ?_ GE1.out) | exact HB.out)) hb); clear BK1; clear HB; have BK1 := n0_; have HB := n1_; clear n0_ n1_; (try clear hb); (try clear hb2); (try clear hk); (try clear hi)))
      go_ret
      exact ⟨by first | rfl | (simp [errW_none, errW_some] <;> rfl) | (simp [*, errW_none, errW_some] <;> rfl), by repeat (first | (with_reducible first | exact HB.out | apply below_alloc | apply pw_below_drewN | apply below_drew1 | refine below_set ?_ GE1.out) | exact HB.out)⟩
    · rw [if_neg c5] at H
      have c5b0 : decide (a2 < a0_0) = false := decide_eq_false c5
      clear c5
      obtain rfl := Option.some.inj H
      go_enter Try.func114, Try.ntmps114
      go_wp2_with (first | ((with_reducible refine gate_dst (N := 3) rfl ?_); refine box_event ?hg (N := 3) ?hd (cs := #[.int .i64 a0_0, .int .i64 a0_1, .int .i64 a0_2, .int .i64 a0_3, .int .i64 a0_4, .slice A0_5 l0_5.length c0_5]) (t := 24) ?hr ?_; (case hd => rfl); (case hg => rfl); (case hr => first | (go_simp; done) | (go_simp; rfl)); intro gb1 hg w10 hbox hb; have n0_ := Aside0.mk (below_step (by repeat (first | (with_reducible first | exact HB.out | apply below_alloc | apply pw_below_drewN | apply below_drew1) | exact HB.out)) hb); have n1_ := Aside0.mk (hbox); have n2_ := Aside0.mk ((by rw [hg]; exact (below_size (by repeat (first | (with_reducible first | exact HB.out | apply below_alloc | apply pw_below_drewN | apply below_drew1) | exact HB.out))) : w.heap.size ≤ gb1)); have n3_ := Aside0.mk ((by rw [hg]; exact (below_size (by repeat (first | (with_reducible first | exact HB.out | apply below_alloc | apply pw_below_drewN | apply below_drew1) | exact HB.out))) : w.heap.size ≤ gb1)); clear HB; have HB := n0_; have BK1 := n1_; have GW1 := n2_; have GE1 := n3_; clear n0_ n1_ n2_ n3_; clear hb hbox hg; have hcz11_0 : w10.cell? ⟨gb1, 0, none⟩ = some (.int .i64 a0_0) := (blk_cell BK1.out 0).trans rfl; have hcz11_1 : w10.cell? ⟨gb1, 1, none⟩ = some (.int .i64 a0_1) := (blk_cell BK1.out 1).trans rfl; have hcz11_2 : w10.cell? ⟨gb1, 2, none⟩ = some (.int .i64 a0_2) := (blk_cell BK1.out 2).trans rfl; have hcz11_3 : w10.cell? ⟨gb1, 3, none⟩ = some (.int .i64 a0_3) := (blk_cell BK1.out 3).trans rfl; have hcz11_4 : w10.cell? ⟨gb1, 4, none⟩ = some (.int .i64 a0_4) := (blk_cell BK1.out 4).trans rfl; have hcz11_5 : w10.cell? ⟨gb1, 5, none⟩ = some (.slice A0_5 l0_5.length c0_5) := (blk_cell BK1.out 5).trans rfl; have hfz11_0 := blk_frozen BK1.out 0; have hfz11_1 := blk_frozen BK1.out 1; have hfz11_2 := blk_frozen BK1.out 2; have hfz11_3 := blk_frozen BK1.out 3; have hfz11_4 := blk_frozen BK1.out 4; have hfz11_5 := blk_frozen BK1.out 5))
      go_ret
      exact ⟨by first | rfl | (simp [errW_none, errW_some] <;> rfl) | (simp [*, errW_none, errW_some] <;> rfl), by repeat (first | (with_reducible first | exact HB.out | apply below_alloc | apply pw_below_drewN | apply below_drew1 | refine below_set ?_ GE1.out) | exact HB.out)⟩
  · rw [if_neg c4] at H
    have c4b0 : (a1 == 3) = false := beq_eq_false_iff_ne.mpr c4
    have c4b1 : (a1 != 3) = true := bne_iff_ne.mpr c4
    obtain rfl := Option.some.inj H
    go_enter Try.func114, Try.ntmps114
    go_wp2_with (first | ((with_reducible refine gate_dst (N := 3) rfl ?_); refine box_event ?hg (N := 3) ?hd (cs := #[.int .i64 a0_0, .int .i64 a0_1, .int .i64 a0_2, .int .i64 a0_3, .int .i64 a0_4, .slice A0_5 l0_5.length c0_5]) (t := 24) ?hr ?_; (case hd => rfl); (case hg => rfl); (case hr => first | (go_simp; done) | (go_simp; rfl)); intro gb1 hg w12 hbox hb; have n0_ := Aside0.mk (below_step (by repeat (first | (with_reducible first | exact HB.out | apply below_alloc | apply pw_below_drewN | apply below_drew1) | exact HB.out)) hb); have n1_ := Aside0.mk (hbox); have n2_ := Aside0.mk ((by rw [hg]; exact (below_size (by repeat (first | (with_reducible first | exact HB.out | apply below_alloc | apply pw_below_drewN | apply below_drew1) | exact HB.out))) : w.heap.size ≤ gb1)); have n3_ := Aside0.mk ((by rw [hg]; exact (below_size (by repeat (first | (with_reducible first | exact HB.out | apply below_alloc | apply pw_below_drewN | apply below_drew1) | exact HB.out))) : w.heap.size ≤ gb1)); clear HB; have HB := n0_; have BK1 := n1_; have GW1 := n2_; have GE1 := n3_; clear n0_ n1_ n2_ n3_; clear hb hbox hg))
    go_ret
    exact ⟨by first | rfl | (simp [errW_none, errW_some] <;> rfl) | (simp [*, errW_none, errW_some] <;> rfl), by repeat (first | (with_reducible first | exact HB.out | apply below_alloc | apply pw_below_drewN | apply below_drew1 | refine below_set ?_ GE1.out) | exact HB.out)⟩

end Go.Proofs.Ytkelibikjkgohaa.P

namespace Go.Proofs.Ytkelibikjkgohaa.P
set_option linter.unusedVariables false
open Go.RowKit Go.Proofs.YtkelibikjkgohaaW.PrintWords Go.Proofs.YtkelibikjkgohaaW.PrintLast Go.Proofs.YtkelibikjkgohaaW.PrintMore

/-- a configuration that may be -/
def COk (c : Sp.Conf) : Prop := confOk c.f0 c.f1 c.f2 c.f3 c.f4 c.f5

theorem slots_le {c : Sp.Conf} (h : COk c) : 6 ≤ Sp.slots c ∧ Sp.slots c ≤ 15 ∧ c.f0 ≤ Sp.slots c := by
  unfold COk confOk at h; unfold Sp.slots; omega

theorem slots_calls (c : Sp.Conf) (A0 : Option Addr) (cp0 : Nat) (w : World) (hc : COk c) (hr0 : Kd.C (Kd.int .i64) w A0 c.f5.length c.f5) (hc0 : c.f5.length ≤ cp0) :
    Calls Try.prog 120 #[.agg #[.int .i64 c.f0, .int .i64 c.f1, .int .i64 c.f2, .int .i64 c.f3, .int .i64 c.f4, .slice A0 c.f5.length cp0]] w fun e w' => e = .returned (.int .i64 (Sp.slots c)) ∧ Below w.heap.size w w' := by
  refine conf_Slots.calls _ _ _ _ _ _ _ _ (Sp.slots c) _ hr0 hc0 ?_
  unfold conf_Slots.f Sp.slots
  have := slots_le hc
  unfold Sp.slots at this
  unfold wrap64
  congr 1
  omega

theorem echoes_calls (c : Sp.Conf) (A0 : Option Addr) (cp0 : Nat) (kind slot : Int) (w : World) (hc : COk c) (hr0 : Kd.C (Kd.int .i64) w A0 c.f5.length c.f5) (hc0 : c.f5.length ≤ cp0) :
    Calls Try.prog 114 #[.agg #[.int .i64 c.f0, .int .i64 c.f1, .int .i64 c.f2, .int .i64 c.f3, .int .i64 c.f4, .slice A0 c.f5.length cp0], .int .i64 kind, .int .i64 slot] w fun e w' => e = .returned (.int .i64 (Sp.echoes c kind slot)) ∧ Below w.heap.size w w' := by
  refine frame_echoes.calls _ _ _ _ _ _ _ _ _ _ (Sp.echoes c kind slot) _ hr0 hc0 ?_
  unfold frame_echoes.f conf_Slots.f Sp.echoes Sp.slots
  have := slots_le hc
  unfold Sp.slots at this
  have e : wrap64 (c.f0 + (c.f5.length : Int)) = c.f0 + (c.f5.length : Int) := by unfold wrap64; omega
  rw [e]
  by_cases h1 : kind = 3
  · by_cases h2 : slot < c.f0
    · rw [if_pos h1, if_pos h2, if_pos ⟨h1, h2⟩]; rfl
    · rw [if_pos h1, if_neg h2, if_neg (fun h => h2 h.2)]
  · rw [if_neg h1, if_neg (fun h => h1 h.1)]

theorem value_calls (x : Sp.Item) (w : World) : Calls Try.prog 137 #[.agg #[.int .i64 x.f0, .int .i64 x.f1]] w fun e w' => e = .returned (.bool (Sp.valueB x)) ∧ Below w.heap.size w w' := by
  refine frame_value.calls _ _ (Sp.valueB x) _ ?_
  unfold frame_value.f Sp.valueB
  by_cases h1 : x.f0 = 1
  · have h2 : ¬ x.f0 = 2 := by omega
    by_cases h3 : x.f1 = 0
    · simp [h1, h3]
    · simp [h1, h3]
  · by_cases h2 : x.f0 = 2
    · by_cases h3 : x.f1 ≥ 0
      · simp [h2, h3]
      · simp [h2, h3]
    · simp [h1, h2]

theorem empty_calls (x : Sp.Item) (w : World) : Calls Try.prog 136 #[.agg #[.int .i64 x.f0, .int .i64 x.f1]] w fun e w' => e = .returned (.bool (Sp.emptyB x)) ∧ Below w.heap.size w w' :=
  frame_empty.calls _ _ (Sp.emptyB x) _ rfl

/-- is an item one that may not be -/
def badB (x : Sp.Item) : Bool := !Sp.emptyB x && !Sp.valueB x

theorem frame_lit (x : Sp.Item) (w : World) : Calls Try.prog 139 #[.agg #[.int .i64 x.f0, .int .i64 x.f1]] w fun e w' => e = .returned (.bool (badB x)) ∧ Below w.heap.size w w' := by
  cases h1 : Sp.emptyB x with
  | true =>
    have HB : Hid (badB x = false) := Lib.hid (by unfold badB; rw [h1]; rfl)
    have E := Lib.hid (fun w => h1 ▸ empty_calls x w)
    clear h1
    go_enter Try.func139, Try.ntmps139
    go_wp2_with (go_at_call 136; (with_reducible refine (E.out _).mono ?_); rintro e w1 ⟨rfl, hb⟩)
    go_ret
    exact ⟨by rw [HB.out]; rfl, below_then (below_alloc (Below.refl _ _) _) (by simp) hb⟩
  | false =>
    have HB : Hid (badB x = !Sp.valueB x) := Lib.hid (by unfold badB; rw [h1]; simp)
    have E := Lib.hid (fun w => h1 ▸ empty_calls x w)
    clear h1
    go_enter Try.func139, Try.ntmps139
    go_wp2_with fail
    refine (E.out _).mono ?_
    rintro e w1 ⟨rfl, hb⟩
    have c0 : w1.cell? ⟨w.heap.size, 0, none⟩ = some (.int .i64 x.f0) := (hb.cell (p := ⟨w.heap.size, 0, none⟩) (by simp)).trans (by go_simp)
    have c1 : w1.cell? ⟨w.heap.size, 1, none⟩ = some (.int .i64 x.f1) := (hb.cell (p := ⟨w.heap.size, 1, none⟩) (by simp)).trans (by go_simp)
    have hb1 := Lib.hid hb
    clear hb
    go_wp2_with (go_at_call 137; (with_reducible refine (value_calls x _).mono ?_); rintro e w2 ⟨rfl, hb2⟩)
    go_ret
    exact ⟨by rw [HB.out]; rfl, below_then (below_then (below_alloc (Below.refl _ _) _) (by simp) hb1.out) (by have := hb1.out.size; simp at this; omega) hb2⟩

def IdxPost (l : List Sp.Item) (w : World) (e : Ending) (w' : World) : Prop := ∃ r : Int, e = .returned (.int .i64 r) ∧ decide (0 ≤ r) = l.any badB ∧ Below w.heap.size w w'

theorem rdItem_nat (xs : List Sp.Item) (k : Nat) (h : k < xs.length) : rd_T26 xs (k : Int) = xs[k] := by
  simp [rd_T26, h]

set_option maxRecDepth 100000 in
set_option maxHeartbeats 1000000 in
theorem frame_index (A : Option Addr) (c : Nat) (l : List Sp.Item) (w : World) (hr : Kd.C k26 w A l.length l) (hl : l.length ≤ 1000000) :
    Calls Try.prog 150 #[.slice A l.length c, .func (Fn.func 139) #[] #[]] w (IdxPost l w) := by
  have HR := Lib.hid hr
  clear hr
  go_enter Try.func150, Try.ntmps150
  go_wp2
  go_loopw [8] (fun t wr => ∃ k : Nat, k ≤ l.length ∧ t = .int .i64 k ∧ Below w.heap.size w wr ∧ Hid ((l.take k).any badB = false)) (fun t _ => l.length - (intOf t).toNat)
  case atStart => exact ⟨0, by omega, rfl, Below.refl _ _, Lib.hid (by simp)⟩
  case round =>
    obtain ⟨k, hk, rfl, hb, HN⟩ := hrel
    have HBW := Lib.hid hb
    clear hb
    by_cases hlt : k < l.length
    · obtain ⟨ad, e1, hx0, hx1⟩ := at_T26 (Kd.C_below HR.out HBW.out) (k : Int) (by omega) (by omega)
      cases e1
      rw [rdItem_nat l k hlt, Int.toNat_natCast] at hx0 hx1
      have HS : Hid ((l.take (k + 1)).any badB = badB l[k]) := Lib.hid (by
        rw [List.take_add_one, List.any_append, HN.out, List.getElem?_eq_getElem hlt]; simp)
      have HY : Hid (badB l[k] = true → l.any badB = true) := Lib.hid (fun h => List.any_eq_true.2 ⟨_, List.getElem_mem hlt, h⟩)
      generalize l[k] = x at *
      go_wp2_with fail
      refine (frame_lit x _).mono ?_
      rintro e w1 ⟨rfl, hb1⟩
      have HB1 := Lib.hid hb1
      clear hb1
      cases hbad : badB x with
      | true =>
        have HT := Lib.hid (HY.out hbad)
        clear HY HS HN hbad
        go_wp2
        go_ret
        exact ⟨k, rfl, by rw [HT.out]; simp, below_then HBW.out HBW.out.size HB1.out⟩
      | false =>
        rw [hbad] at HS
        clear HY HN hbad
        go_wp2
        go_roundw
        case rel => exact ⟨k + 1, by omega, by go_num, below_then HBW.out HBW.out.size HB1.out, HS⟩
        case measure => simp [intOf]; omega
    · have HE : Hid (l.any badB = false) := Lib.hid (by have := HN.out; rwa [List.take_of_length_le (by omega)] at this)
      go_wp2
      go_ret
      exact ⟨-1, rfl, by rw [HE.out]; rfl, HBW.out⟩

theorem frame_contains (A : Option Addr) (c : Nat) (l : List Sp.Item) (w : World) (hr : Kd.C k26 w A l.length l) (hl : l.length ≤ 1000000) :
    Calls Try.prog 138 #[.slice A l.length c, .func (Fn.func 139) #[] #[]] w fun e w' => e = .returned (.bool (l.any badB)) ∧ Below w.heap.size w w' := by
  have HI := Lib.hid (frame_index A c l w hr hl)
  clear hr
  go_enter Try.func138, Try.ntmps138
  go_wp2_with fail
  refine HI.out.mono ?_
  rintro e w1 ⟨r, rfl, h1, h2⟩
  have H1 := Lib.hid h1
  have H2 := Lib.hid h2
  clear h1 h2
  go_wp2
  go_ret
  exact ⟨by rw [← H1.out]; rfl, H2.out⟩
end Go.Proofs.Ytkelibikjkgohaa.P

namespace Go.Proofs.Ytkelibikjkgohaa.P
open Go.RowKit Go.Proofs.YtkelibikjkgohaaW.PrintWords Go.Proofs.YtkelibikjkgohaaW.PrintLast Go.Proofs.YtkelibikjkgohaaW.PrintMore
attribute [local go_sem] max2_int min2_int max_two min_two max_three min_three max_four min_four
set_option linter.unusedVariables false
set_option linter.unusedSimpArgs false
/-! ### plaitinglaw3_within: function 65 -/
def plaitinglaw3_within.f (a0 : Int) (a1 : Int) : Option (Int) := if a1 = 0 then (none) else (if (Int.tmod a0 a1) < 0 then (some (wrap64 ((Int.tmod a0 a1) + a1))) else (some (Int.tmod a0 a1)))
set_option maxHeartbeats 8000000 in
set_option maxRecDepth 100000 in
theorem plaitinglaw3_within.calls (a0 : Int) (a1 : Int) (r : Int) (w : World) (h : plaitinglaw3_within.f a0 a1 = some r) :
    Calls Try.prog 65 #[.int .i64 a0, .int .i64 a1] w fun e w' => e = .returned (.int .i64 r) ∧ Drawn0 w w' := by
  have H : (if a1 = 0 then (none) else (if (Int.tmod a0 a1) < 0 then (some (wrap64 ((Int.tmod a0 a1) + a1))) else (some (Int.tmod a0 a1)))) = some r := h
  clear h
  by_cases c3 : a1 = 0
  · rw [if_pos c3] at H
    exact absurd H (by simp)
  · rw [if_neg c3] at H
    have c3b0 : (a1 == 0) = false := beq_eq_false_iff_ne.mpr c3
    have c3b1 : (a1 != 0) = true := bne_iff_ne.mpr c3
    by_cases c4 : (Int.tmod a0 a1) < 0
    · rw [if_pos c4] at H
      have c4b0 : decide ((Int.tmod a0 a1) < 0) = true := decide_eq_true c4
      clear c4
      obtain rfl := Option.some.inj H
      go_enter Try.func65, Try.ntmps65
      go_wp2
      go_ret
      exact ⟨by first | rfl | (simp; done) | (simp [*]; done), by repeat (first | exact Drawn0.refl _ | apply Drawn0.step)⟩
    · rw [if_neg c4] at H
      have c4b0 : decide ((Int.tmod a0 a1) < 0) = false := decide_eq_false c4
      clear c4
      obtain rfl := Option.some.inj H
      go_enter Try.func65, Try.ntmps65
      go_wp2
      go_ret
      exact ⟨by first | rfl | (simp; done) | (simp [*]; done), by repeat (first | exact Drawn0.refl _ | apply Drawn0.step)⟩

end Go.Proofs.Ytkelibikjkgohaa.P
