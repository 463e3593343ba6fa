/- frame.Check: what the call answers of a configuration that may be, any frame. -/
import Derived.Test.YtkelibikjkgohaaHConf
import Derived.Test.YtkelibikjkgohaaF137
import Derived.Test.YtkelibikjkgohaaF136
import Derived.Test.YtkelibikjkgohaaF114
import Derived.Test.YtkelibikjkgohaaF120
namespace Go.Proofs.Ytkelibikjkgohaa.P
set_option linter.unusedVariables false
open Go.RowKit Go.Proofs.YtkelibikjkgohaaW.PrintWords Go.Proofs.YtkelibikjkgohaaW.PrintLast Go.Proofs.YtkelibikjkgohaaW.PrintMore

/-- a configuration that may be -/
def COk (c : Sp.Conf) : Prop := confOk c.f0 c.f1 c.f2 c.f3 c.f4 c.f5

theorem slots_le {c : Sp.Conf} (h : COk c) : 6 ≤ Sp.slots c ∧ Sp.slots c ≤ 15 ∧ c.f0 ≤ Sp.slots c := by
  unfold COk confOk at h; unfold Sp.slots; omega

theorem slots_calls (c : Sp.Conf) (A0 : Option Addr) (cp0 : Nat) (w : World) (hc : COk c) (hr0 : Kd.C (Kd.int .i64) w A0 c.f5.length c.f5) (hc0 : c.f5.length ≤ cp0) :
    Calls Try.prog 120 #[.agg #[.int .i64 c.f0, .int .i64 c.f1, .int .i64 c.f2, .int .i64 c.f3, .int .i64 c.f4, .slice A0 c.f5.length cp0]] w fun e w' => e = .returned (.int .i64 (Sp.slots c)) ∧ Below w.heap.size w w' := by
  refine conf_Slots.calls _ _ _ _ _ _ _ _ (Sp.slots c) _ hr0 hc0 ?_
  unfold conf_Slots.f Sp.slots
  have := slots_le hc
  unfold Sp.slots at this
  unfold wrap64
  congr 1
  omega

theorem echoes_calls (c : Sp.Conf) (A0 : Option Addr) (cp0 : Nat) (kind slot : Int) (w : World) (hc : COk c) (hr0 : Kd.C (Kd.int .i64) w A0 c.f5.length c.f5) (hc0 : c.f5.length ≤ cp0) :
    Calls Try.prog 114 #[.agg #[.int .i64 c.f0, .int .i64 c.f1, .int .i64 c.f2, .int .i64 c.f3, .int .i64 c.f4, .slice A0 c.f5.length cp0], .int .i64 kind, .int .i64 slot] w fun e w' => e = .returned (.int .i64 (Sp.echoes c kind slot)) ∧ Below w.heap.size w w' := by
  refine frame_echoes.calls _ _ _ _ _ _ _ _ _ _ (Sp.echoes c kind slot) _ hr0 hc0 ?_
  unfold frame_echoes.f conf_Slots.f Sp.echoes Sp.slots
  have := slots_le hc
  unfold Sp.slots at this
  have e : wrap64 (c.f0 + (c.f5.length : Int)) = c.f0 + (c.f5.length : Int) := by unfold wrap64; omega
  rw [e]
  by_cases h1 : kind = 3
  · by_cases h2 : slot < c.f0
    · rw [if_pos h1, if_pos h2, if_pos ⟨h1, h2⟩]; rfl
    · rw [if_pos h1, if_neg h2, if_neg (fun h => h2 h.2)]
  · rw [if_neg h1, if_neg (fun h => h1 h.1)]

theorem value_calls (x : Sp.Item) (w : World) : Calls Try.prog 137 #[.agg #[.int .i64 x.f0, .int .i64 x.f1]] w fun e w' => e = .returned (.bool (Sp.valueB x)) ∧ Below w.heap.size w w' := by
  refine frame_value.calls _ _ (Sp.valueB x) _ ?_
  unfold frame_value.f Sp.valueB
  by_cases h1 : x.f0 = 1
  · have h2 : ¬ x.f0 = 2 := by omega
    by_cases h3 : x.f1 = 0
    · simp [h1, h3]
    · simp [h1, h3]
  · by_cases h2 : x.f0 = 2
    · by_cases h3 : x.f1 ≥ 0
      · simp [h2, h3]
      · simp [h2, h3]
    · simp [h1, h2]

theorem empty_calls (x : Sp.Item) (w : World) : Calls Try.prog 136 #[.agg #[.int .i64 x.f0, .int .i64 x.f1]] w fun e w' => e = .returned (.bool (Sp.emptyB x)) ∧ Below w.heap.size w w' :=
  frame_empty.calls _ _ (Sp.emptyB x) _ rfl

/-- is an item one that may not be -/
def badB (x : Sp.Item) : Bool := !Sp.emptyB x && !Sp.valueB x

theorem frame_lit (x : Sp.Item) (w : World) : Calls Try.prog 139 #[.agg #[.int .i64 x.f0, .int .i64 x.f1]] w fun e w' => e = .returned (.bool (badB x)) ∧ Below w.heap.size w w' := by
  cases h1 : Sp.emptyB x with
  | true =>
    have HB : Hid (badB x = false) := Lib.hid (by unfold badB; rw [h1]; rfl)
    have E := Lib.hid (fun w => h1 ▸ empty_calls x w)
    clear h1
    go_enter Try.func139, Try.ntmps139
    go_wp2_with (go_at_call 136; (with_reducible refine (E.out _).mono ?_); rintro e w1 ⟨rfl, hb⟩)
    go_ret
    exact ⟨by rw [HB.out]; rfl, below_then (below_alloc (Below.refl _ _) _) (by simp) hb⟩
  | false =>
    have HB : Hid (badB x = !Sp.valueB x) := Lib.hid (by unfold badB; rw [h1]; simp)
    have E := Lib.hid (fun w => h1 ▸ empty_calls x w)
    clear h1
    go_enter Try.func139, Try.ntmps139
    go_wp2_with fail
    refine (E.out _).mono ?_
    rintro e w1 ⟨rfl, hb⟩
    have c0 : w1.cell? ⟨w.heap.size, 0, none⟩ = some (.int .i64 x.f0) := (hb.cell (p := ⟨w.heap.size, 0, none⟩) (by simp)).trans (by go_simp)
    have c1 : w1.cell? ⟨w.heap.size, 1, none⟩ = some (.int .i64 x.f1) := (hb.cell (p := ⟨w.heap.size, 1, none⟩) (by simp)).trans (by go_simp)
    have hb1 := Lib.hid hb
    clear hb
    go_wp2_with (go_at_call 137; (with_reducible refine (value_calls x _).mono ?_); rintro e w2 ⟨rfl, hb2⟩)
    go_ret
    exact ⟨by rw [HB.out]; rfl, below_then (below_then (below_alloc (Below.refl _ _) _) (by simp) hb1.out) (by have := hb1.out.size; simp at this; omega) hb2⟩

def IdxPost (l : List Sp.Item) (w : World) (e : Ending) (w' : World) : Prop := ∃ r : Int, e = .returned (.int .i64 r) ∧ decide (0 ≤ r) = l.any badB ∧ Below w.heap.size w w'

theorem rdItem_nat (xs : List Sp.Item) (k : Nat) (h : k < xs.length) : rd_T26 xs (k : Int) = xs[k] := by
  simp [rd_T26, h]

set_option maxRecDepth 100000 in
set_option maxHeartbeats 1000000 in
theorem frame_index (A : Option Addr) (c : Nat) (l : List Sp.Item) (w : World) (hr : Kd.C k26 w A l.length l) (hl : l.length ≤ 1000000) :
    Calls Try.prog 150 #[.slice A l.length c, .func (Fn.func 139) #[] #[]] w (IdxPost l w) := by
  have HR := Lib.hid hr
  clear hr
  go_enter Try.func150, Try.ntmps150
  go_wp2
  go_loopw [8] (fun t wr => ∃ k : Nat, k ≤ l.length ∧ t = .int .i64 k ∧ Below w.heap.size w wr ∧ Hid ((l.take k).any badB = false)) (fun t _ => l.length - (intOf t).toNat)
  case atStart => exact ⟨0, by omega, rfl, Below.refl _ _, Lib.hid (by simp)⟩
  case round =>
    obtain ⟨k, hk, rfl, hb, HN⟩ := hrel
    have HBW := Lib.hid hb
    clear hb
    by_cases hlt : k < l.length
    · obtain ⟨ad, e1, hx0, hx1⟩ := at_T26 (Kd.C_below HR.out HBW.out) (k : Int) (by omega) (by omega)
      cases e1
      rw [rdItem_nat l k hlt, Int.toNat_natCast] at hx0 hx1
      have HS : Hid ((l.take (k + 1)).any badB = badB l[k]) := Lib.hid (by
        rw [List.take_add_one, List.any_append, HN.out, List.getElem?_eq_getElem hlt]; simp)
      have HY : Hid (badB l[k] = true → l.any badB = true) := Lib.hid (fun h => List.any_eq_true.2 ⟨_, List.getElem_mem hlt, h⟩)
      generalize l[k] = x at *
      go_wp2_with fail
      refine (frame_lit x _).mono ?_
      rintro e w1 ⟨rfl, hb1⟩
      have HB1 := Lib.hid hb1
      clear hb1
      cases hbad : badB x with
      | true =>
        have HT := Lib.hid (HY.out hbad)
        clear HY HS HN hbad
        go_wp2
        go_ret
        exact ⟨k, rfl, by rw [HT.out]; simp, below_then HBW.out HBW.out.size HB1.out⟩
      | false =>
        rw [hbad] at HS
        clear HY HN hbad
        go_wp2
        go_roundw
        case rel => exact ⟨k + 1, by omega, by go_num, below_then HBW.out HBW.out.size HB1.out, HS⟩
        case measure => simp [intOf]; omega
    · have HE : Hid (l.any badB = false) := Lib.hid (by have := HN.out; rwa [List.take_of_length_le (by omega)] at this)
      go_wp2
      go_ret
      exact ⟨-1, rfl, by rw [HE.out]; rfl, HBW.out⟩

theorem frame_contains (A : Option Addr) (c : Nat) (l : List Sp.Item) (w : World) (hr : Kd.C k26 w A l.length l) (hl : l.length ≤ 1000000) :
    Calls Try.prog 138 #[.slice A l.length c, .func (Fn.func 139) #[] #[]] w fun e w' => e = .returned (.bool (l.any badB)) ∧ Below w.heap.size w w' := by
  have HI := Lib.hid (frame_index A c l w hr hl)
  clear hr
  go_enter Try.func138, Try.ntmps138
  go_wp2_with fail
  refine HI.out.mono ?_
  rintro e w1 ⟨r, rfl, h1, h2⟩
  have H1 := Lib.hid h1
  have H2 := Lib.hid h2
  clear h1 h2
  go_wp2
  go_ret
  exact ⟨by rw [← H1.out]; rfl, H2.out⟩
end Go.Proofs.Ytkelibikjkgohaa.P
