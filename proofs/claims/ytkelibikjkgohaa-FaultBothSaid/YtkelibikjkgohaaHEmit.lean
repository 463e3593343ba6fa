/- fault.Emit: what goes from one node to another one. -/
import Derived.Test.YtkelibikjkgohaaHDone
import Derived.Test.YtkelibikjkgohaaHConf
namespace Go.Proofs.Ytkelibikjkgohaa.P
set_option linter.unusedVariables false
open Go.RowKit Go.Proofs.YtkelibikjkgohaaW.PrintWords Go.Proofs.YtkelibikjkgohaaW.PrintLast Go.Proofs.YtkelibikjkgohaaW.PrintMore

def EBox (c : S24) (A0 : Option Addr) (cp0 : Nat) (f : S48) (A4 : Option Addr) (cp4 : Nat) (A5 : Option Addr) (cp5 : Nat) (w W : World) : Prop := W.cell? ⟨w.heap.size, 0, none⟩ = some (.int .i64 c.f0) ∧ W.cell? ⟨w.heap.size, 1, none⟩ = some (.int .i64 c.f1) ∧ W.cell? ⟨w.heap.size, 2, none⟩ = some (.int .i64 c.f2) ∧ W.cell? ⟨w.heap.size, 3, none⟩ = some (.int .i64 c.f3) ∧ W.cell? ⟨w.heap.size, 4, none⟩ = some (.int .i64 c.f4) ∧ W.cell? ⟨w.heap.size, 5, none⟩ = some (.slice A0 c.f5.length cp0) ∧ W.cell? ⟨w.heap.size + 1, 0, none⟩ = some (.int .i64 f.f0) ∧ W.cell? ⟨w.heap.size + 1, 1, none⟩ = some (.int .i64 f.f1) ∧ W.cell? ⟨w.heap.size + 1, 2, none⟩ = some (.int .i64 f.f2) ∧ W.cell? ⟨w.heap.size + 1, 3, none⟩ = some (.int .i64 f.f3) ∧ W.cell? ⟨w.heap.size + 1, 4, none⟩ = some (.slice A4 f.f4.length cp4) ∧ W.cell? ⟨w.heap.size + 1, 5, none⟩ = some (.slice A5 f.f5.length cp5)

theorem ebox_then (c : S24) (A0 : Option Addr) (cp0 : Nat) (f : S48) (A4 : Option Addr) (cp4 : Nat) (A5 : Option Addr) (cp5 : Nat) (w w1 : World) (hb : Below ((w.alloc (.cells #[.int .i64 c.f0, .int .i64 c.f1, .int .i64 c.f2, .int .i64 c.f3, .int .i64 c.f4, .slice A0 c.f5.length cp0] 24)).alloc (.cells #[.int .i64 f.f0, .int .i64 f.f1, .int .i64 f.f2, .int .i64 f.f3, .slice A4 f.f4.length cp4, .slice A5 f.f5.length cp5] 48)).heap.size ((w.alloc (.cells #[.int .i64 c.f0, .int .i64 c.f1, .int .i64 c.f2, .int .i64 c.f3, .int .i64 c.f4, .slice A0 c.f5.length cp0] 24)).alloc (.cells #[.int .i64 f.f0, .int .i64 f.f1, .int .i64 f.f2, .int .i64 f.f3, .slice A4 f.f4.length cp4, .slice A5 f.f5.length cp5] 48)) w1) : EBox c A0 cp0 f A4 cp4 A5 cp5 w w1 := by
  have q0 := blk_below (blk_alloc (blk_new w (.cells #[.int .i64 c.f0, .int .i64 c.f1, .int .i64 c.f2, .int .i64 c.f3, .int .i64 c.f4, .slice A0 c.f5.length cp0] 24)) (.cells #[.int .i64 f.f0, .int .i64 f.f1, .int .i64 f.f2, .int .i64 f.f3, .slice A4 f.f4.length cp4, .slice A5 f.f5.length cp5] 48)) hb
  have q1 := blk_below (blk_new (w.alloc (.cells #[.int .i64 c.f0, .int .i64 c.f1, .int .i64 c.f2, .int .i64 c.f3, .int .i64 c.f4, .slice A0 c.f5.length cp0] 24)) (.cells #[.int .i64 f.f0, .int .i64 f.f1, .int .i64 f.f2, .int .i64 f.f3, .slice A4 f.f4.length cp4, .slice A5 f.f5.length cp5] 48)) hb
  have e : (w.alloc (.cells #[.int .i64 c.f0, .int .i64 c.f1, .int .i64 c.f2, .int .i64 c.f3, .int .i64 c.f4, .slice A0 c.f5.length cp0] 24)).heap.size = w.heap.size + 1 := by simp
  rw [e] at q1
  exact ⟨(blk_cell q0 0).trans rfl, (blk_cell q0 1).trans rfl, (blk_cell q0 2).trans rfl, (blk_cell q0 3).trans rfl, (blk_cell q0 4).trans rfl, (blk_cell q0 5).trans rfl, (blk_cell q1 0).trans rfl, (blk_cell q1 1).trans rfl, (blk_cell q1 2).trans rfl, (blk_cell q1 3).trans rfl, (blk_cell q1 4).trans rfl, (blk_cell q1 5).trans rfl⟩

theorem EBox.below {c : S24} {A0 : Option Addr} {cp0 : Nat} {f : S48} {A4 : Option Addr} {cp4 : Nat} {A5 : Option Addr} {cp5 : Nat} {w w1 w2 : World} (h : EBox c A0 cp0 f A4 cp4 A5 cp5 w w1) (hb : Below w1.heap.size w1 w2) : EBox c A0 cp0 f A4 cp4 A5 cp5 w w2 := by
  obtain ⟨z0, z1, z2, z3, z4, z5, z6, z7, z8, z9, z10, z11⟩ := h
  exact ⟨pw_cell_below hb z0, pw_cell_below hb z1, pw_cell_below hb z2, pw_cell_below hb z3, pw_cell_below hb z4, pw_cell_below hb z5, pw_cell_below hb z6, pw_cell_below hb z7, pw_cell_below hb z8, pw_cell_below hb z9, pw_cell_below hb z10, pw_cell_below hb z11⟩
theorem EBox.below2 {c : S24} {A0 : Option Addr} {cp0 : Nat} {f : S48} {A4 : Option Addr} {cp4 : Nat} {A5 : Option Addr} {cp5 : Nat} {w w1 w2 : World} {m : Nat} (h : EBox c A0 cp0 f A4 cp4 A5 cp5 w w1) (hb : Below (w1.drewN m).heap.size (w1.drewN m) w2) : EBox c A0 cp0 f A4 cp4 A5 cp5 w w2 := by
  obtain ⟨z0, z1, z2, z3, z4, z5, z6, z7, z8, z9, z10, z11⟩ := h
  exact ⟨pw_cell_below hb z0, pw_cell_below hb z1, pw_cell_below hb z2, pw_cell_below hb z3, pw_cell_below hb z4, pw_cell_below hb z5, pw_cell_below hb z6, pw_cell_below hb z7, pw_cell_below hb z8, pw_cell_below hb z9, pw_cell_below hb z10, pw_cell_below hb z11⟩

def emitK (f : S48) (r s b : Int) : Int := (17 * r + 5 * s + b) % f.f4.length

set_option maxRecDepth 100000 in
set_option maxHeartbeats 4000000 in
theorem emit_off (c : S24) (A0 : Option Addr) (cp0 : Nat) (f : S48) (A4 : Option Addr) (cp4 : Nat) (A5 : Option Addr) (cp5 : Nat) (r s a b : Int) (base : ByteArray) (w : World) (hc : confOk c.f0 c.f1 c.f2 c.f3 c.f4 c.f5) (hr0 : Kd.C (Kd.int .i64) w A0 c.f5.length c.f5) (hc0 : c.f5.length ≤ cp0) (hk : f.f0 = 2 → (6 ≤ c.f0 ∧ c.f0 ≤ 12) ∧ (0 ≤ a ∧ a < c.f0) ∧ (0 ≤ b ∧ b < c.f0)) (hh : hitsB c.f0 f.f0 f.f1 a b = false) :
    Calls Try.prog 38 #[.agg #[.int .i64 c.f0, .int .i64 c.f1, .int .i64 c.f2, .int .i64 c.f3, .int .i64 c.f4, .slice A0 c.f5.length cp0], .agg #[.int .i64 f.f0, .int .i64 f.f1, .int .i64 f.f2, .int .i64 f.f3, .slice A4 f.f4.length cp4, .slice A5 f.f5.length cp5], .int .i64 r, .int .i64 s, .int .i64 a, .int .i64 b, .string base] w fun e w' => e = .returned (.string (base)) ∧ Below w.heap.size w w' := by
  have HV := Lib.hid hh
  clear hh
  have HC := Lib.hid (show conf_Check.f c.f0 c.f1 c.f2 c.f3 c.f4 c.f5 = some 0 from by unfold conf_Check.f; rw [if_pos hc])
  have HR0 := Lib.hid hr0
  have HH := Lib.hid (fun W => hits_any c.f0 c.f1 c.f2 c.f3 c.f4 A0 c.f5.length cp0 f.f0 f.f1 f.f2 f.f3 A4 f.f4.length cp4 A5 f.f5.length cp5 a b W hk)
  clear hc hr0 hk
  go_enter Try.func38, Try.ntmps38
  go_wp2_with fail
  refine (conf_Check.calls _ _ _ _ _ _ _ _ 0 _ (Kd.C_below HR0.out ?hb) hc0 HC.out).mono ?_
  case hb => exact below_alloc (below_alloc (Below.refl _ _) _) _
  rintro e w1 ⟨rfl, hb⟩
  obtain ⟨z0, z1, z2, z3, z4, z5, z6, z7, z8, z9, z10, z11⟩ := ebox_then c A0 cp0 f A4 cp4 A5 cp5 w w1 hb
  have B1 := Lib.hid (below_step (below_alloc (below_alloc (Below.refl w.heap.size w) _) _) hb)
  clear hb
  go_wp2_with (go_at_call 40; (with_reducible refine (HH.out _).mono ?_); rintro e w2 ⟨rfl, hb⟩; rw [HV.out]; have ZZ := Lib.hid (EBox.below (show EBox c A0 cp0 f A4 cp4 A5 cp5 w w1 from ⟨z0, z1, z2, z3, z4, z5, z6, z7, z8, z9, z10, z11⟩) hb); have B2 := Lib.hid (below_step B1.out hb); clear hb z0 z1 z2 z3 z4 z5 z6 z7 z8 z9 z10 z11; obtain ⟨z0, z1, z2, z3, z4, z5, z6, z7, z8, z9, z10, z11⟩ := ZZ.out; clear ZZ)
  go_ret
  exact ⟨rfl, B2.out⟩

set_option maxRecDepth 100000 in
set_option maxHeartbeats 4000000 in
theorem emit_past (c : S24) (A0 : Option Addr) (cp0 : Nat) (f : S48) (A4 : Option Addr) (cp4 : Nat) (A5 : Option Addr) (cp5 : Nat) (r s a b : Int) (base : ByteArray) (w : World) (hc : confOk c.f0 c.f1 c.f2 c.f3 c.f4 c.f5) (hr0 : Kd.C (Kd.int .i64) w A0 c.f5.length c.f5) (hc0 : c.f5.length ≤ cp0) (hk : f.f0 = 2 → (6 ≤ c.f0 ∧ c.f0 ≤ 12) ∧ (0 ≤ a ∧ a < c.f0) ∧ (0 ≤ b ∧ b < c.f0)) (hh : hitsB c.f0 f.f0 f.f1 a b = true) (h3 : f.f3 ≤ r) :
    Calls Try.prog 38 #[.agg #[.int .i64 c.f0, .int .i64 c.f1, .int .i64 c.f2, .int .i64 c.f3, .int .i64 c.f4, .slice A0 c.f5.length cp0], .agg #[.int .i64 f.f0, .int .i64 f.f1, .int .i64 f.f2, .int .i64 f.f3, .slice A4 f.f4.length cp4, .slice A5 f.f5.length cp5], .int .i64 r, .int .i64 s, .int .i64 a, .int .i64 b, .string base] w fun e w' => e = .returned (.string (base)) ∧ Below w.heap.size w w' := by
  have HV := Lib.hid hh
  have k3 : decide (f.f3 ≤ r) = true := decide_eq_true h3
  clear hh h3
  have HC := Lib.hid (show conf_Check.f c.f0 c.f1 c.f2 c.f3 c.f4 c.f5 = some 0 from by unfold conf_Check.f; rw [if_pos hc])
  have HR0 := Lib.hid hr0
  have HH := Lib.hid (fun W => hits_any c.f0 c.f1 c.f2 c.f3 c.f4 A0 c.f5.length cp0 f.f0 f.f1 f.f2 f.f3 A4 f.f4.length cp4 A5 f.f5.length cp5 a b W hk)
  clear hc hr0 hk
  go_enter Try.func38, Try.ntmps38
  go_wp2_with fail
  refine (conf_Check.calls _ _ _ _ _ _ _ _ 0 _ (Kd.C_below HR0.out ?hb) hc0 HC.out).mono ?_
  case hb => exact below_alloc (below_alloc (Below.refl _ _) _) _
  rintro e w1 ⟨rfl, hb⟩
  obtain ⟨z0, z1, z2, z3, z4, z5, z6, z7, z8, z9, z10, z11⟩ := ebox_then c A0 cp0 f A4 cp4 A5 cp5 w w1 hb
  have B1 := Lib.hid (below_step (below_alloc (below_alloc (Below.refl w.heap.size w) _) _) hb)
  clear hb
  go_wp2_with (go_at_call 40; (with_reducible refine (HH.out _).mono ?_); rintro e w2 ⟨rfl, hb⟩; rw [HV.out]; have ZZ := Lib.hid (EBox.below (show EBox c A0 cp0 f A4 cp4 A5 cp5 w w1 from ⟨z0, z1, z2, z3, z4, z5, z6, z7, z8, z9, z10, z11⟩) hb); have B2 := Lib.hid (below_step B1.out hb); clear hb z0 z1 z2 z3 z4 z5 z6 z7 z8 z9 z10 z11; obtain ⟨z0, z1, z2, z3, z4, z5, z6, z7, z8, z9, z10, z11⟩ := ZZ.out; clear ZZ)
  go_ret
  exact ⟨rfl, B2.out⟩

set_option maxRecDepth 100000 in
set_option maxHeartbeats 4000000 in
theorem emit_early (c : S24) (A0 : Option Addr) (cp0 : Nat) (f : S48) (A4 : Option Addr) (cp4 : Nat) (A5 : Option Addr) (cp5 : Nat) (r s a b : Int) (base : ByteArray) (w : World) (hc : confOk c.f0 c.f1 c.f2 c.f3 c.f4 c.f5) (hr0 : Kd.C (Kd.int .i64) w A0 c.f5.length c.f5) (hc0 : c.f5.length ≤ cp0) (hk : f.f0 = 2 → (6 ≤ c.f0 ∧ c.f0 ≤ 12) ∧ (0 ≤ a ∧ a < c.f0) ∧ (0 ≤ b ∧ b < c.f0)) (hh : hitsB c.f0 f.f0 f.f1 a b = true) (h3 : ¬ f.f3 ≤ r) (h2 : r < f.f2) :
    Calls Try.prog 38 #[.agg #[.int .i64 c.f0, .int .i64 c.f1, .int .i64 c.f2, .int .i64 c.f3, .int .i64 c.f4, .slice A0 c.f5.length cp0], .agg #[.int .i64 f.f0, .int .i64 f.f1, .int .i64 f.f2, .int .i64 f.f3, .slice A4 f.f4.length cp4, .slice A5 f.f5.length cp5], .int .i64 r, .int .i64 s, .int .i64 a, .int .i64 b, .string base] w fun e w' => e = .returned (.string (⟨#[]⟩)) ∧ Below w.heap.size w w' := by
  have HV := Lib.hid hh
  have k3 : decide (f.f3 ≤ r) = false := decide_eq_false h3
  have k2 : decide (r < f.f2) = true := decide_eq_true h2
  clear hh h3 h2
  have HC := Lib.hid (show conf_Check.f c.f0 c.f1 c.f2 c.f3 c.f4 c.f5 = some 0 from by unfold conf_Check.f; rw [if_pos hc])
  have HR0 := Lib.hid hr0
  have HH := Lib.hid (fun W => hits_any c.f0 c.f1 c.f2 c.f3 c.f4 A0 c.f5.length cp0 f.f0 f.f1 f.f2 f.f3 A4 f.f4.length cp4 A5 f.f5.length cp5 a b W hk)
  clear hc hr0 hk
  go_enter Try.func38, Try.ntmps38
  go_wp2_with fail
  refine (conf_Check.calls _ _ _ _ _ _ _ _ 0 _ (Kd.C_below HR0.out ?hb) hc0 HC.out).mono ?_
  case hb => exact below_alloc (below_alloc (Below.refl _ _) _) _
  rintro e w1 ⟨rfl, hb⟩
  obtain ⟨z0, z1, z2, z3, z4, z5, z6, z7, z8, z9, z10, z11⟩ := ebox_then c A0 cp0 f A4 cp4 A5 cp5 w w1 hb
  have B1 := Lib.hid (below_step (below_alloc (below_alloc (Below.refl w.heap.size w) _) _) hb)
  clear hb
  go_wp2_with (go_at_call 40; (with_reducible refine (HH.out _).mono ?_); rintro e w2 ⟨rfl, hb⟩; rw [HV.out]; have ZZ := Lib.hid (EBox.below (show EBox c A0 cp0 f A4 cp4 A5 cp5 w w1 from ⟨z0, z1, z2, z3, z4, z5, z6, z7, z8, z9, z10, z11⟩) hb); have B2 := Lib.hid (below_step B1.out hb); clear hb z0 z1 z2 z3 z4 z5 z6 z7 z8 z9 z10 z11; obtain ⟨z0, z1, z2, z3, z4, z5, z6, z7, z8, z9, z10, z11⟩ := ZZ.out; clear ZZ)
  go_ret
  exact ⟨rfl, B2.out⟩

set_option maxRecDepth 100000 in
set_option maxHeartbeats 4000000 in
theorem emit_none (c : S24) (A0 : Option Addr) (cp0 : Nat) (f : S48) (A4 : Option Addr) (cp4 : Nat) (A5 : Option Addr) (cp5 : Nat) (r s a b : Int) (base : ByteArray) (w : World) (hc : confOk c.f0 c.f1 c.f2 c.f3 c.f4 c.f5) (hr0 : Kd.C (Kd.int .i64) w A0 c.f5.length c.f5) (hc0 : c.f5.length ≤ cp0) (hk : f.f0 = 2 → (6 ≤ c.f0 ∧ c.f0 ≤ 12) ∧ (0 ≤ a ∧ a < c.f0) ∧ (0 ≤ b ∧ b < c.f0)) (hh : hitsB c.f0 f.f0 f.f1 a b = true) (h3 : ¬ f.f3 ≤ r) (h2 : ¬ r < f.f2) (hn : f.f4.length = 0) (hrs : (0 ≤ r ∧ r ≤ 1000000) ∧ (0 ≤ s ∧ s ≤ 1000000) ∧ (0 ≤ b ∧ b ≤ 1000000)) :
    Calls Try.prog 38 #[.agg #[.int .i64 c.f0, .int .i64 c.f1, .int .i64 c.f2, .int .i64 c.f3, .int .i64 c.f4, .slice A0 c.f5.length cp0], .agg #[.int .i64 f.f0, .int .i64 f.f1, .int .i64 f.f2, .int .i64 f.f3, .slice A4 f.f4.length cp4, .slice A5 f.f5.length cp5], .int .i64 r, .int .i64 s, .int .i64 a, .int .i64 b, .string base] w fun e w' => e = .returned (.string (⟨#[]⟩)) ∧ Below w.heap.size w w' := by
  have HV := Lib.hid hh
  have k3 : decide (f.f3 ≤ r) = false := decide_eq_false h3
  have k2 : decide (r < f.f2) = false := decide_eq_false h2
  have HN := Lib.hid hn
  clear hh h3 h2 hn
  have HC := Lib.hid (show conf_Check.f c.f0 c.f1 c.f2 c.f3 c.f4 c.f5 = some 0 from by unfold conf_Check.f; rw [if_pos hc])
  have HR0 := Lib.hid hr0
  have HH := Lib.hid (fun W => hits_any c.f0 c.f1 c.f2 c.f3 c.f4 A0 c.f5.length cp0 f.f0 f.f1 f.f2 f.f3 A4 f.f4.length cp4 A5 f.f5.length cp5 a b W hk)
  clear hc hr0 hk
  go_enter Try.func38, Try.ntmps38
  go_wp2_with fail
  refine (conf_Check.calls _ _ _ _ _ _ _ _ 0 _ (Kd.C_below HR0.out ?hb) hc0 HC.out).mono ?_
  case hb => exact below_alloc (below_alloc (Below.refl _ _) _) _
  rintro e w1 ⟨rfl, hb⟩
  obtain ⟨z0, z1, z2, z3, z4, z5, z6, z7, z8, z9, z10, z11⟩ := ebox_then c A0 cp0 f A4 cp4 A5 cp5 w w1 hb
  have B1 := Lib.hid (below_step (below_alloc (below_alloc (Below.refl w.heap.size w) _) _) hb)
  clear hb
  go_wp2_with (first | (go_at_call 40; (with_reducible refine (HH.out _).mono ?_); rintro e w2 ⟨rfl, hb⟩; rw [HV.out]; have ZZ := Lib.hid (EBox.below (show EBox c A0 cp0 f A4 cp4 A5 cp5 w w1 from ⟨z0, z1, z2, z3, z4, z5, z6, z7, z8, z9, z10, z11⟩) hb); have B2 := Lib.hid (below_step B1.out hb); clear hb z0 z1 z2 z3 z4 z5 z6 z7 z8 z9 z10 z11; obtain ⟨z0, z1, z2, z3, z4, z5, z6, z7, z8, z9, z10, z11⟩ := ZZ.out; clear ZZ) | (go_at_call 77; (with_reducible refine (pick_none _ _ _ (by have := HN.out; omega)).mono ?_); rintro e w3 ⟨rfl, q, rfl⟩))
  go_ret
  exact ⟨rfl, pw_below_drewN B2.out _⟩

theorem rdAct (l : List S55) (k : Nat) (h : k < l.length) : rd_T55 l (k : Int) = l[k] := by
  simp [rd_T55, h]

set_option maxRecDepth 100000 in
set_option maxHeartbeats 4000000 in
theorem emit_act (c : S24) (A0 : Option Addr) (cp0 : Nat) (f : S48) (A4 : Option Addr) (cp4 : Nat) (A5 : Option Addr) (cp5 : Nat) (r s a b : Int) (base : ByteArray) (w : World) (hc : confOk c.f0 c.f1 c.f2 c.f3 c.f4 c.f5) (hr0 : Kd.C (Kd.int .i64) w A0 c.f5.length c.f5) (hc0 : c.f5.length ≤ cp0) (hk : f.f0 = 2 → (6 ≤ c.f0 ∧ c.f0 ≤ 12) ∧ (0 ≤ a ∧ a < c.f0) ∧ (0 ≤ b ∧ b < c.f0)) (hh : hitsB c.f0 f.f0 f.f1 a b = true) (h3 : ¬ f.f3 ≤ r) (h2 : ¬ r < f.f2) (hrs : (0 ≤ r ∧ r ≤ 1000000) ∧ (0 ≤ s ∧ s ≤ 1000000) ∧ (0 ≤ b ∧ b ≤ 1000000)) (hr4 : Kd.C k55 w A4 f.f4.length f.f4) (hl : 0 < f.f4.length ∧ f.f4.length ≤ 1000000) (k : Nat) (hkk : emitK f r s b = k) (D : ByteArray)
    (hd : ∀ W, Below w.heap.size w W → Calls Try.prog 78 #[.agg #[.int .i64 c.f0, .int .i64 c.f1, .int .i64 c.f2, .int .i64 c.f3, .int .i64 c.f4, .slice A0 c.f5.length cp0], .agg #[.int .i64 (rd_T55 f.f4 k).f0, .int .i64 (rd_T55 f.f4 k).f1, .string (rd_T55 f.f4 k).f2], .int .i64 r, .int .i64 s, .string base] W fun e w' => e = .returned (.string D) ∧ Below W.heap.size W w') :
    Calls Try.prog 38 #[.agg #[.int .i64 c.f0, .int .i64 c.f1, .int .i64 c.f2, .int .i64 c.f3, .int .i64 c.f4, .slice A0 c.f5.length cp0], .agg #[.int .i64 f.f0, .int .i64 f.f1, .int .i64 f.f2, .int .i64 f.f3, .slice A4 f.f4.length cp4, .slice A5 f.f5.length cp5], .int .i64 r, .int .i64 s, .int .i64 a, .int .i64 b, .string base] w fun e w' => e = .returned (.string (D)) ∧ Below w.heap.size w w' := by
  have HV := Lib.hid hh
  have k3 : decide (f.f3 ≤ r) = false := decide_eq_false h3
  have k2 : decide (r < f.f2) = false := decide_eq_false h2
  have HK := Lib.hid hkk
  have hkl : (k : Int) < f.f4.length := by unfold emitK at hkk; rw [← hkk]; exact Int.emod_lt_of_pos _ (by omega)
  have HD := Lib.hid hd
  obtain ⟨ad, eA, cA⟩ := at_T55 hr4 k (by omega) hkl
  subst eA
  have HA := Lib.hid cA
  generalize rd_T55 f.f4 k = act at *
  have kd : decide ((k : Int) < 0) = false := decide_eq_false (by omega)
  clear hh h3 h2 hkk hd hr4 cA
  have HC := Lib.hid (show conf_Check.f c.f0 c.f1 c.f2 c.f3 c.f4 c.f5 = some 0 from by unfold conf_Check.f; rw [if_pos hc])
  have HR0 := Lib.hid hr0
  have HH := Lib.hid (fun W => hits_any c.f0 c.f1 c.f2 c.f3 c.f4 A0 c.f5.length cp0 f.f0 f.f1 f.f2 f.f3 (some ad) f.f4.length cp4 A5 f.f5.length cp5 a b W hk)
  clear hc hr0 hk
  go_enter Try.func38, Try.ntmps38
  go_wp2_with fail
  refine (conf_Check.calls _ _ _ _ _ _ _ _ 0 _ (Kd.C_below HR0.out ?hb) hc0 HC.out).mono ?_
  case hb => exact below_alloc (below_alloc (Below.refl _ _) _) _
  rintro e w1 ⟨rfl, hb⟩
  obtain ⟨z0, z1, z2, z3, z4, z5, z6, z7, z8, z9, z10, z11⟩ := ebox_then c A0 cp0 f (some ad) cp4 A5 cp5 w w1 hb
  have B1 := Lib.hid (below_step (below_alloc (below_alloc (Below.refl w.heap.size w) _) _) hb)
  clear hb
  go_wp2_with (first | (go_at_call 40; (with_reducible refine (HH.out _).mono ?_); rintro e w2 ⟨rfl, hb⟩; rw [HV.out]; have ZZ := Lib.hid (EBox.below (show EBox c A0 cp0 f (some ad) cp4 A5 cp5 w w1 from ⟨z0, z1, z2, z3, z4, z5, z6, z7, z8, z9, z10, z11⟩) hb); have B2 := Lib.hid (below_step B1.out hb); clear hb z0 z1 z2 z3 z4 z5 z6 z7 z8 z9 z10 z11; obtain ⟨z0, z1, z2, z3, z4, z5, z6, z7, z8, z9, z10, z11⟩ := ZZ.out; clear ZZ) | (go_at_call 77; (with_reducible refine (pick_calls _ _ _ ⟨by omega, by omega⟩).mono ?_); rintro e w3 ⟨rfl, q, rfl⟩; rw [show (17 * r + 5 * s + b) % (f.f4.length : Int) = k from HK.out]))
  obtain ⟨a0, a1, a2⟩ := HA.out
  rw [Int.toNat_natCast] at a0 a1 a2
  have b0 := pw_cell_below B2.out a0
  have b1 := pw_cell_below B2.out a1
  have b2 := pw_cell_below B2.out a2
  clear a0 a1 a2
  have hk0 : (0 : Int) ≤ k := by omega
  go_region_held3 (fun w' => w'.cell? ⟨w.heap.size, 0, none⟩ = some (.int .i64 c.f0) ∧ w'.cell? ⟨w.heap.size, 1, none⟩ = some (.int .i64 c.f1) ∧ w'.cell? ⟨w.heap.size, 2, none⟩ = some (.int .i64 c.f2) ∧ w'.cell? ⟨w.heap.size, 3, none⟩ = some (.int .i64 c.f3) ∧ w'.cell? ⟨w.heap.size, 4, none⟩ = some (.int .i64 c.f4) ∧ w'.cell? ⟨w.heap.size, 5, none⟩ = some (.slice A0 c.f5.length cp0) ∧ w'.cell? ⟨w.heap.size + 1, 0, none⟩ = some (.int .i64 f.f0) ∧ w'.cell? ⟨w.heap.size + 1, 1, none⟩ = some (.int .i64 f.f1) ∧ w'.cell? ⟨w.heap.size + 1, 2, none⟩ = some (.int .i64 f.f2) ∧ w'.cell? ⟨w.heap.size + 1, 3, none⟩ = some (.int .i64 f.f3) ∧ w'.cell? ⟨w.heap.size + 1, 4, none⟩ = some (.slice (some ad) f.f4.length cp4) ∧ w'.cell? ⟨w.heap.size + 1, 5, none⟩ = some (.slice A5 f.f5.length cp5) ∧ w'.cell? (ad.add (k * 3)) = some (.int .i64 act.f0) ∧ w'.cell? ⟨(ad.add (k * 3)).block, (ad.add (k * 3)).off + 1, none⟩ = some (.int .i64 act.f1) ∧ w'.cell? ⟨(ad.add (k * 3)).block, (ad.add (k * 3)).off + 2, none⟩ = some (.string act.f2))
    (go_keep)
    ((go_at_call 78; refine (HD.out _ ?hb).mono ?_; (case hb => exact pw_below_drewN B2.out _); rintro e w4 ⟨rfl, hb⟩; have HB4 := Lib.hid hb; clear hb; have ZZ := Lib.hid (EBox.below2 (show EBox c A0 cp0 f (some ad) cp4 A5 cp5 w w2 from ⟨z0, z1, z2, z3, z4, z5, z6, z7, z8, z9, z10, z11⟩) HB4.out); have y0 := pw_cell_below HB4.out b0; have y1 := pw_cell_below HB4.out b1; have y2 := pw_cell_below HB4.out b2; clear b0 b1 b2 z0 z1 z2 z3 z4 z5 z6 z7 z8 z9 z10 z11; obtain ⟨z0, z1, z2, z3, z4, z5, z6, z7, z8, z9, z10, z11⟩ := ZZ.out; clear ZZ))
  go_wp2
  go_ret
  exact ⟨rfl, below_step (pw_below_drewN B2.out _) HB4.out⟩
end Go.Proofs.Ytkelibikjkgohaa.P
