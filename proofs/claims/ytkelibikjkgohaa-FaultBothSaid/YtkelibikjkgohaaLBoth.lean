/- plaitinglaw6.FaultBoth: what it answers. -/
import Derived.Test.YtkelibikjkgohaaHKnown6
namespace Go.Proofs.Ytkelibikjkgohaa.P
set_option linter.unusedVariables false
open Go.RowKit Go.Proofs.YtkelibikjkgohaaW.PrintWords Go.Proofs.YtkelibikjkgohaaW.PrintLast Go.Proofs.YtkelibikjkgohaaW.PrintMore

def endX (N k : Int) : Int := if k < N then k else k - N
def endY (N k : Int) : Int := if k < N then (k + 1) % N else (k - N + 2) % N

def endsOk (N k : Nat) : Bool := !(decide (6 ≤ N) && decide (k < 2 * N)) || (linkB N (endX N k) (endY N k) == ((k : Int), true) && linkB N (endY N k) (endX N k) == ((k : Int), true) && decide (0 ≤ endX N k) && decide (endX N k < N) && decide (0 ≤ endY N k) && decide (endY N k < N))
theorem ends_all : (List.range 13).all (fun N => (List.range 26).all fun k => endsOk N k) = true := by kernel_rfl
theorem ends_ok (N k : Int) (hN : 6 ≤ N ∧ N ≤ 12) (hk : 0 ≤ k ∧ k < 2 * N) : linkB N (endX N k) (endY N k) = (k, true) ∧ linkB N (endY N k) (endX N k) = (k, true) ∧ (0 ≤ endX N k ∧ endX N k < N) ∧ (0 ≤ endY N k ∧ endY N k < N) := by
  obtain ⟨N', rfl⟩ := Int.eq_ofNat_of_zero_le (show 0 ≤ N by omega)
  obtain ⟨k', rfl⟩ := Int.eq_ofNat_of_zero_le hk.1
  have h := ends_all
  rw [List.all_eq_true] at h
  have h := h N' (List.mem_range.2 (by omega))
  rw [List.all_eq_true] at h
  have h := h k' (List.mem_range.2 (by omega))
  unfold endsOk at h
  rw [decide_eq_true (show 6 ≤ N' by omega), decide_eq_true (show k' < 2 * N' by omega)] at h
  simp only [Bool.and_self, Bool.not_true, Bool.false_or, Bool.and_eq_true, beq_iff_eq, decide_eq_true_eq] at h
  obtain ⟨⟨⟨⟨⟨h1, h2⟩, h3⟩, h4⟩, h5⟩, h6⟩ := h
  exact ⟨h1, h2, ⟨h3, h4⟩, ⟨h5, h6⟩⟩

def BBox (d : Sp.Conf) (A1 : Option Addr) (cp1 : Nat) (k : Int) (gr g1 g2 : Nat) (W : World) : Prop := W.cell? ⟨g1, 0, none⟩ = some (.int .i64 d.f0) ∧ W.cell? ⟨g1, 1, none⟩ = some (.int .i64 d.f1) ∧ W.cell? ⟨g1, 2, none⟩ = some (.int .i64 d.f2) ∧ W.cell? ⟨g1, 3, none⟩ = some (.int .i64 d.f3) ∧ W.cell? ⟨g1, 4, none⟩ = some (.int .i64 d.f4) ∧ W.cell? ⟨g1, 5, none⟩ = some (.slice A1 d.f5.length cp1) ∧ W.cell? ⟨g2, 0, none⟩ = some (.int .i64 2) ∧ W.cell? ⟨g2, 1, none⟩ = some (.int .i64 k) ∧ W.cell? ⟨g2, 2, none⟩ = some (.int .i64 0) ∧ W.cell? ⟨g2, 3, none⟩ = some (.int .i64 1000) ∧ W.cell? ⟨g2, 4, none⟩ = some (.slice (some ⟨gr, 0, none⟩) 1 1) ∧ W.cell? ⟨g2, 5, none⟩ = some (.slice none 0 0)
theorem BBox.below {d : Sp.Conf} {A1 : Option Addr} {cp1 : Nat} {k : Int} {gr g1 g2 : Nat} {w1 w2 : World} (h : BBox d A1 cp1 k gr g1 g2 w1) (hb : Below w1.heap.size w1 w2) : BBox d A1 cp1 k gr g1 g2 w2 := by
  obtain ⟨z0, z1, z2, z3, z4, z5, z6, z7, z8, z9, z10, z11⟩ := h
  exact ⟨pw_cell_below hb z0, pw_cell_below hb z1, pw_cell_below hb z2, pw_cell_below hb z3, pw_cell_below hb z4, pw_cell_below hb z5, pw_cell_below hb z6, pw_cell_below hb z7, pw_cell_below hb z8, pw_cell_below hb z9, pw_cell_below hb z10, pw_cell_below hb z11⟩

/-- what the locus does in the world W: two ends, two nodes -/
structure BothHas (d : Sp.Conf) (A1 : Option Addr) (cp1 : Nat) (k : Int) (gr g1 g2 : Nat) (x y i j l r : Int) (is : Bool) (W : World) : Prop where
  h1 : Calls Try.prog 40 #[.agg #[.int .i64 d.f0, .int .i64 d.f1, .int .i64 d.f2, .int .i64 d.f3, .int .i64 d.f4, .slice A1 d.f5.length cp1], .agg #[.int .i64 2, .int .i64 k, .int .i64 0, .int .i64 1000, .slice (some ⟨gr, 0, none⟩) 1 1, .slice none 0 0], .int .i64 x, .int .i64 y] W fun e w' => e = .returned (.bool true) ∧ Below W.heap.size W w'
  h2 : Calls Try.prog 40 #[.agg #[.int .i64 d.f0, .int .i64 d.f1, .int .i64 d.f2, .int .i64 d.f3, .int .i64 d.f4, .slice A1 d.f5.length cp1], .agg #[.int .i64 2, .int .i64 k, .int .i64 0, .int .i64 1000, .slice (some ⟨gr, 0, none⟩) 1 1, .slice none 0 0], .int .i64 y, .int .i64 x] W fun e w' => e = .returned (.bool true) ∧ Below W.heap.size W w'
  h3 : Calls Try.prog 40 #[.agg #[.int .i64 d.f0, .int .i64 d.f1, .int .i64 d.f2, .int .i64 d.f3, .int .i64 d.f4, .slice A1 d.f5.length cp1], .agg #[.int .i64 2, .int .i64 k, .int .i64 0, .int .i64 1000, .slice (some ⟨gr, 0, none⟩) 1 1, .slice none 0 0], .int .i64 i, .int .i64 j] W fun e w' => e = .returned (.bool (is && (l == k))) ∧ Below W.heap.size W w'
  e1 : Calls Try.prog 38 #[.agg #[.int .i64 d.f0, .int .i64 d.f1, .int .i64 d.f2, .int .i64 d.f3, .int .i64 d.f4, .slice A1 d.f5.length cp1], .agg #[.int .i64 2, .int .i64 k, .int .i64 0, .int .i64 1000, .slice (some ⟨gr, 0, none⟩) 1 1, .slice none 0 0], .int .i64 r, .int .i64 0, .int .i64 x, .int .i64 y, .string ⟨#[49]⟩] W fun e w' => e = .returned (.string ⟨#[]⟩) ∧ Below W.heap.size W w'
  e2 : Calls Try.prog 38 #[.agg #[.int .i64 d.f0, .int .i64 d.f1, .int .i64 d.f2, .int .i64 d.f3, .int .i64 d.f4, .slice A1 d.f5.length cp1], .agg #[.int .i64 2, .int .i64 k, .int .i64 0, .int .i64 1000, .slice (some ⟨gr, 0, none⟩) 1 1, .slice none 0 0], .int .i64 r, .int .i64 0, .int .i64 y, .int .i64 x, .string ⟨#[49]⟩] W fun e w' => e = .returned (.string ⟨#[]⟩) ∧ Below W.heap.size W w'
  e3 : is = true → (l == k) = false → Calls Try.prog 38 #[.agg #[.int .i64 d.f0, .int .i64 d.f1, .int .i64 d.f2, .int .i64 d.f3, .int .i64 d.f4, .slice A1 d.f5.length cp1], .agg #[.int .i64 2, .int .i64 k, .int .i64 0, .int .i64 1000, .slice (some ⟨gr, 0, none⟩) 1 1, .slice none 0 0], .int .i64 r, .int .i64 0, .int .i64 i, .int .i64 j, .string ⟨#[49]⟩] W fun e w' => e = .returned (.string ⟨#[49]⟩) ∧ Below W.heap.size W w'
  r1 : Calls Try.prog 42 #[.agg #[.int .i64 d.f0, .int .i64 d.f1, .int .i64 d.f2, .int .i64 d.f3, .int .i64 d.f4, .slice A1 d.f5.length cp1], .agg #[.int .i64 2, .int .i64 k, .int .i64 0, .int .i64 1000, .slice (some ⟨gr, 0, none⟩) 1 1, .slice none 0 0], .int .i64 r, .int .i64 x] W fun e w' => e = .returned (.bool true) ∧ Below W.heap.size W w'

theorem both_has (d : Sp.Conf) (A1 : Option Addr) (cp1 : Nat) (k : Int) (gr g1 g2 : Nat) (i j l r : Int) (is : Bool) (W : World) (hd : COk d) (hk : 0 ≤ k ∧ k < 2 * d.f0) (hi : 0 ≤ i ∧ i < d.f0) (hj : 0 ≤ j ∧ j < d.f0) (hr : 0 ≤ r ∧ r < 999) (hl : linkB d.f0 i j = (l, is)) (hc : Kd.C (Kd.int .i64) W A1 d.f5.length d.f5) (hcp : d.f5.length ≤ cp1) (ha : Kd.C k55 W (some ⟨gr, 0, none⟩) 1 [⟨0, 0, ⟨#[]⟩⟩]) : BothHas d A1 cp1 k gr g1 g2 (endX d.f0 k) (endY d.f0 k) i j l r is W := by
  have hN : 6 ≤ d.f0 ∧ d.f0 ≤ 12 := hd.1
  obtain ⟨q1, q2, q3, q4⟩ := ends_ok d.f0 k hN hk
  generalize endX d.f0 k = x at *
  generalize endY d.f0 k = y at *
  have hz : ∀ a b : Int, hitsB d.f0 2 k a b = ((linkB d.f0 a b).2 && ((linkB d.f0 a b).1 == k)) := fun a b => rfl
  have t1 : hitsB d.f0 2 k x y = true := by rw [hz, q1]; simp
  have t2 : hitsB d.f0 2 k y x = true := by rw [hz, q2]; simp
  have t3 : hitsB d.f0 2 k i j = (is && (l == k)) := by rw [hz, hl]
  have fv : ∀ (a b : Int) (ha : 0 ≤ a ∧ a < d.f0) (hb : 0 ≤ b ∧ b < d.f0), hitsB d.f0 2 k a b = true → Calls Try.prog 38 #[.agg #[.int .i64 d.f0, .int .i64 d.f1, .int .i64 d.f2, .int .i64 d.f3, .int .i64 d.f4, .slice A1 d.f5.length cp1], .agg #[.int .i64 2, .int .i64 k, .int .i64 0, .int .i64 1000, .slice (some ⟨gr, 0, none⟩) 1 1, .slice none 0 0], .int .i64 r, .int .i64 0, .int .i64 a, .int .i64 b, .string ⟨#[49]⟩] W fun e w' => e = .returned (.string ⟨#[]⟩) ∧ Below W.heap.size W w' := fun a b ha' hb' hh =>
    emit_act d A1 cp1 ⟨2, k, 0, 1000, [⟨0, 0, ⟨#[]⟩⟩], []⟩ (some ⟨gr, 0, none⟩) 1 none 0 r 0 a b ⟨#[49]⟩ W hd hc hcp (fun _ => ⟨hN, ha', hb'⟩) hh (by show ¬ (1000 : Int) ≤ r; omega) (by show ¬ r < (0 : Int); omega) (by omega) ha ⟨(show 0 < 1 by decide), (show 1 ≤ 1000000 by decide)⟩ 0 (by unfold emitK; show (17 * r + 5 * 0 + b) % 1 = 0; omega) ⟨#[]⟩ (fun V hV => done_0 _ _ _ _ _ _ _ _ _ _ _ _ _ _ V (show (0 : Int) % 7 = 0 by decide))
  exact ⟨t1 ▸ hits_any _ _ _ _ _ _ _ _ 2 k 0 1000 _ _ _ _ _ _ x y W (fun _ => ⟨hN, q3, q4⟩), t2 ▸ hits_any _ _ _ _ _ _ _ _ 2 k 0 1000 _ _ _ _ _ _ y x W (fun _ => ⟨hN, q4, q3⟩), t3 ▸ hits_any _ _ _ _ _ _ _ _ 2 k 0 1000 _ _ _ _ _ _ i j W (fun _ => ⟨hN, hi, hj⟩), fv x y q3 q4 t1, fv y x q4 q3 t2, fun h1 h2 => emit_off d A1 cp1 ⟨2, k, 0, 1000, [⟨0, 0, ⟨#[]⟩⟩], []⟩ (some ⟨gr, 0, none⟩) 1 none 0 r 0 i j ⟨#[49]⟩ W hd hc hcp (fun _ => ⟨hN, hi, hj⟩) (by show hitsB d.f0 2 k i j = false; rw [t3, h2]; simp), right_any _ _ _ _ _ _ _ _ 2 k 0 1000 _ _ _ _ _ _ r x W⟩

theorem both_world (d : Sp.Conf) (A1 : Option Addr) (cp1 : Nat) (k : Int) (w2 : World) (q3 : Nat) : BBox d A1 cp1 k (w2.heap.size + 1) w2.heap.size (w2.heap.size + 1 + 1) ((((w2.alloc (Obj.cells #[.int .i64 d.f0, .int .i64 d.f1, .int .i64 d.f2, .int .i64 d.f3, .int .i64 d.f4, .slice A1 d.f5.length cp1] 24)).drewN q3).alloc (Obj.cells #[.int .i64 0, .int .i64 0, .string ⟨#[]⟩] 55)).alloc (Obj.cells #[.int .i64 2, .int .i64 k, .int .i64 0, .int .i64 1000, .slice (some ⟨w2.heap.size + 1, 0, none⟩) 1 1, .slice none 0 0] 48)) ∧ Kd.C k55 ((((w2.alloc (Obj.cells #[.int .i64 d.f0, .int .i64 d.f1, .int .i64 d.f2, .int .i64 d.f3, .int .i64 d.f4, .slice A1 d.f5.length cp1] 24)).drewN q3).alloc (Obj.cells #[.int .i64 0, .int .i64 0, .string ⟨#[]⟩] 55)).alloc (Obj.cells #[.int .i64 2, .int .i64 k, .int .i64 0, .int .i64 1000, .slice (some ⟨w2.heap.size + 1, 0, none⟩) 1 1, .slice none 0 0] 48)) (some ⟨w2.heap.size + 1, 0, none⟩) 1 [⟨0, 0, ⟨#[]⟩⟩] ∧ Below w2.heap.size w2 ((((w2.alloc (Obj.cells #[.int .i64 d.f0, .int .i64 d.f1, .int .i64 d.f2, .int .i64 d.f3, .int .i64 d.f4, .slice A1 d.f5.length cp1] 24)).drewN q3).alloc (Obj.cells #[.int .i64 0, .int .i64 0, .string ⟨#[]⟩] 55)).alloc (Obj.cells #[.int .i64 2, .int .i64 k, .int .i64 0, .int .i64 1000, .slice (some ⟨w2.heap.size + 1, 0, none⟩) 1 1, .slice none 0 0] 48)) := by
  refine ⟨?_, ?_, ?_⟩
  · unfold BBox
    refine ⟨?_, ?_, ?_, ?_, ?_, ?_, ?_, ?_, ?_, ?_, ?_, ?_⟩ <;> go_simp
  · refine ⟨rfl, by decide, fun _ => ⟨_, rfl, fun j p hp => ?_⟩⟩
    have hj : j = 0 := by
      rcases j with _ | j
      · rfl
      · simp at hp
    subst hj
    simp only [List.getElem?_cons_zero, Option.some.injEq] at hp
    subst hp
    refine ⟨_, rfl, k55_mk _ _, fun i u hu => ?_⟩
    rcases i with _ | _ | _ | i
    all_goals simp only [List.getElem?_cons_zero, List.getElem?_cons_succ, Option.some.injEq, List.getElem?_nil, reduceCtorEq] at hu
    all_goals subst hu
    all_goals go_simp
  · repeat (first | exact Below.refl _ _ | apply below_alloc | apply pw_below_drewN)

set_option maxRecDepth 100000 in
set_option maxHeartbeats 4000000 in
theorem both_calls (y0 y1 y2 y3 y4 : Int) (ly : List Int) (A : Option Addr) (cp : Nat) (link a b round : Int) (w : World) (hr : Kd.C (Kd.int .i64) w A ly.length ly) (hcp : ly.length ≤ cp) :
    Calls Try.prog 10 #[.agg #[.int .i64 y0, .int .i64 y1, .int .i64 y2, .int .i64 y3, .int .i64 y4, .slice A ly.length cp], .int .i64 link, .int .i64 a, .int .i64 b, .int .i64 round] w fun e w' => e = .returned (.bool true) ∧ Below w.heap.size w w' := by
  obtain ⟨d, hd, hM⟩ := make3_calls y0 y1 y2 y3 y4 ly
  have HM := Lib.hid hM
  have HR := Lib.hid hr
  have hN : 6 ≤ d.f0 ∧ d.f0 ≤ 12 := hd.1
  obtain ⟨n0, n1⟩ := hN
  have hk := mod_in link (2 * d.f0) (by omega)
  have hi := mod_in a d.f0 (by omega)
  have hj := mod_in b d.f0 (by omega)
  have hrr := mod_in round 999 (by omega)
  have W2 : Hid (∀ W : World, Calls Try.prog 34 #[.int .i64 link, .int .i64 (2 * d.f0)] W fun e w' => e = .returned (.int .i64 (link % (2 * d.f0))) ∧ ∃ k, w' = W.drewN k) := Lib.hid (fun W => within6_calls _ _ W ⟨by omega, by omega⟩)
  have WR : Hid (∀ W : World, Calls Try.prog 34 #[.int .i64 round, .int .i64 999] W fun e w' => e = .returned (.int .i64 (round % 999)) ∧ ∃ k, w' = W.drewN k) := Lib.hid (fun W => within6_calls _ _ W ⟨by omega, by omega⟩)
  generalize link % (2 * d.f0) = k at *
  have hai : ∃ i, i = a % d.f0 := ⟨_, rfl⟩
  obtain ⟨i, hai⟩ := hai
  have hbj : ∃ j, j = b % d.f0 := ⟨_, rfl⟩
  obtain ⟨j, hbj⟩ := hbj
  rw [← hai] at hi
  rw [← hbj] at hj
  generalize round % 999 = r at *
  have HE := Lib.hid (fun W => ends_calls d.f0 k W ⟨n0, n1⟩ hk)
  have HL := Lib.hid (fun W => rlink_calls d.f0 i j W ⟨n0, n1⟩ hi hj)
  have hlk : ∃ l is, linkB d.f0 i j = (l, is) := ⟨_, _, rfl⟩
  obtain ⟨l, is, hlk⟩ := hlk
  have HH : Hid (∀ (A1 : Option Addr) (cp1 gr : Nat) (W : World), Kd.C (Kd.int .i64) W A1 d.f5.length d.f5 → d.f5.length ≤ cp1 → Kd.C k55 W (some ⟨gr, 0, none⟩) 1 [⟨0, 0, ⟨#[]⟩⟩] → BothHas d A1 cp1 k gr 0 0 (endX d.f0 k) (endY d.f0 k) i j l r is W) := Lib.hid (fun A1 cp1 gr W h1 h2 h3 => both_has d A1 cp1 k gr 0 0 i j l r is W hd hk hi hj hrr hlk h1 h2 h3)
  rw [hlk] at HL
  change Hid (∀ W : World, Calls _ _ _ W fun e w' => e = .returned (.tuple #[.int .i64 (endX d.f0 k), .int .i64 (endY d.f0 k)]) ∧ _) at HE
  generalize endX d.f0 k = x at *
  generalize endY d.f0 k = y at *
  have hAI := Lib.hid hai
  have hBJ := Lib.hid hbj
  clear hM hr hlk hd hk hi hj hrr hai hbj
  go_enter Try.func10, Try.ntmps10
  go_wp2_with (first | (go_at_call 29; (with_reducible refine (known6_calls _).mono ?_); rintro e w1 ⟨rfl, hb⟩; have z0 := (hb.cell (p := ⟨w.heap.size, 0, none⟩) (by simp)).trans (show _ = some (.int .i64 y0) by go_simp); have z1 := (hb.cell (p := ⟨w.heap.size, 1, none⟩) (by simp)).trans (show _ = some (.int .i64 y1) by go_simp); have z2 := (hb.cell (p := ⟨w.heap.size, 2, none⟩) (by simp)).trans (show _ = some (.int .i64 y2) by go_simp); have z3 := (hb.cell (p := ⟨w.heap.size, 3, none⟩) (by simp)).trans (show _ = some (.int .i64 y3) by go_simp); have z4 := (hb.cell (p := ⟨w.heap.size, 4, none⟩) (by simp)).trans (show _ = some (.int .i64 y4) by go_simp); have z5 := (hb.cell (p := ⟨w.heap.size, 5, none⟩) (by simp)).trans (show _ = some (.slice A ly.length cp) by go_simp); have B1 := Lib.hid (below_step (below_alloc (Below.refl _ _) _) hb); clear hb) | (go_at_call 22; refine (HM.out A cp _ (Kd.C_below HR.out B1.out) hcp).mono ?_; rintro e w2 ⟨A1, cp1, rfl, hcp1, hC, hb⟩; have HC := Lib.hid hC; have B2 := Lib.hid (below_step B1.out hb); clear hb hC z0 z1 z2 z3 z4 z5) | (go_at_call 34; (with_reducible refine (W2.out _).mono ?_); rintro e w3 ⟨rfl, q3, rfl⟩))
  have hV := both_world d A1 cp1 k w2 q3
  generalize ((((w2.alloc (Obj.cells #[.int .i64 d.f0, .int .i64 d.f1, .int .i64 d.f2, .int .i64 d.f3, .int .i64 d.f4, .slice A1 d.f5.length cp1] 24)).drewN q3).alloc (Obj.cells #[.int .i64 0, .int .i64 0, .string ⟨#[]⟩] 55)).alloc (Obj.cells #[.int .i64 2, .int .i64 k, .int .i64 0, .int .i64 1000, .slice (some ⟨w2.heap.size + 1, 0, none⟩) 1 1, .slice none 0 0] 48)) = V at *
  obtain ⟨hF, hKA, hbV⟩ := hV
  have HB : Hid (∀ W, Below V.heap.size V W → BothHas d A1 cp1 k (w2.heap.size + 1) 0 0 x y i j l r is W) := Lib.hid (fun W hW => HH.out A1 cp1 _ W (Kd.C_below (Kd.C_below HC.out hbV) hW) hcp1 (Kd.C_below hKA hW))
  have B3 := Lib.hid (below_step B2.out hbV)
  clear hKA hbV HH HM HC W2
  obtain ⟨z0, z1, z2, z3, z4, z5, z6, z7, z8, z9, z10, z11⟩ := hF
  have BV := Lib.hid (Below.refl V.heap.size V)
  refine (HE.out _).mono ?_
  rintro e w4 ⟨rfl, q4, rfl⟩
  clear HE
  have hcs : is = false ∨ (is = true ∧ (l == k) = false) ∨ (is = true ∧ (l == k) = true) := by cases is <;> cases (l == k) <;> simp
  rcases hcs with rfl | ⟨rfl, hlk⟩ | ⟨rfl, hlk⟩
  all_goals
    go_wp2
    go_quiet ((go_at_call 34; exact quiet_add (within6_calls _ _ _ ⟨by omega, by omega⟩)))
    rw [show a % d.f0 = i from hAI.out.symm, show b % d.f0 = j from hBJ.out.symm]
    go_wp2_with (first | (go_at_call 50; (with_reducible refine (HL.out _).mono ?_); rintro e w5 ⟨rfl, q5, rfl⟩) | (go_at_call 34; (with_reducible refine (WR.out _).mono ?_); rintro e w5 ⟨rfl, q6, rfl⟩) | (go_at_call 40; (first | (with_reducible refine ((HB.out _ (by repeat (first | exact BV.out | apply pw_below_drewN))).h1).mono ?_) | (with_reducible refine ((HB.out _ (by repeat (first | exact BV.out | apply pw_below_drewN))).h2).mono ?_) | ((with_reducible refine ((HB.out _ (by repeat (first | exact BV.out | apply pw_below_drewN))).h3).mono ?_); (try rw [hlk]); (try rw [Bool.true_and]); (try rw [Bool.false_and]))); rintro e w6 ⟨rfl, hb⟩; replace BV := Lib.hid (below_step (by repeat (first | exact BV.out | apply pw_below_drewN)) hb); replace z0 := pw_cell_below hb z0; replace z1 := pw_cell_below hb z1; replace z2 := pw_cell_below hb z2; replace z3 := pw_cell_below hb z3; replace z4 := pw_cell_below hb z4; replace z5 := pw_cell_below hb z5; replace z6 := pw_cell_below hb z6; replace z7 := pw_cell_below hb z7; replace z8 := pw_cell_below hb z8; replace z9 := pw_cell_below hb z9; replace z10 := pw_cell_below hb z10; replace z11 := pw_cell_below hb z11; clear hb) | (go_at_call 38; (first | (with_reducible refine ((HB.out _ (by repeat (first | exact BV.out | apply pw_below_drewN))).e1).mono ?_) | (with_reducible refine ((HB.out _ (by repeat (first | exact BV.out | apply pw_below_drewN))).e2).mono ?_) | (with_reducible refine ((HB.out _ (by repeat (first | exact BV.out | apply pw_below_drewN))).e3 rfl hlk).mono ?_)); rintro e w6 ⟨rfl, hb⟩; replace BV := Lib.hid (below_step (by repeat (first | exact BV.out | apply pw_below_drewN)) hb); replace z0 := pw_cell_below hb z0; replace z1 := pw_cell_below hb z1; replace z2 := pw_cell_below hb z2; replace z3 := pw_cell_below hb z3; replace z4 := pw_cell_below hb z4; replace z5 := pw_cell_below hb z5; replace z6 := pw_cell_below hb z6; replace z7 := pw_cell_below hb z7; replace z8 := pw_cell_below hb z8; replace z9 := pw_cell_below hb z9; replace z10 := pw_cell_below hb z10; replace z11 := pw_cell_below hb z11; clear hb) | (go_at_call 42; (with_reducible refine ((HB.out _ (by repeat (first | exact BV.out | apply pw_below_drewN))).r1).mono ?_); rintro e w6 ⟨rfl, hb⟩; replace BV := Lib.hid (below_step (by repeat (first | exact BV.out | apply pw_below_drewN)) hb); replace z0 := pw_cell_below hb z0; replace z1 := pw_cell_below hb z1; replace z2 := pw_cell_below hb z2; replace z3 := pw_cell_below hb z3; replace z4 := pw_cell_below hb z4; replace z5 := pw_cell_below hb z5; replace z6 := pw_cell_below hb z6; replace z7 := pw_cell_below hb z7; replace z8 := pw_cell_below hb z8; replace z9 := pw_cell_below hb z9; replace z10 := pw_cell_below hb z10; replace z11 := pw_cell_below hb z11; clear hb))
    go_ret
    exact ⟨rfl, below_step B3.out BV.out⟩
end Go.Proofs.Ytkelibikjkgohaa.P
