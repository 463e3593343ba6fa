/- plaitinglaw3.Make: a configuration that may be. -/
import Derived.Test.YtkelibikjkgohaaHConf
import Derived.Test.YtkelibikjkgohaaHFrameCheck
import Derived.Test.YtkelibikjkgohaaF22
import Derived.Test.YtkelibikjkgohaaHLink
import Derived.Test.YtkelibikjkgohaaF37
import Derived.Test.YtkelibikjkgohaaF50
namespace Go.Proofs.Ytkelibikjkgohaa.P
set_option linter.unusedVariables false
open Go.RowKit Go.Proofs.YtkelibikjkgohaaW.PrintWords Go.Proofs.YtkelibikjkgohaaW.PrintLast Go.Proofs.YtkelibikjkgohaaW.PrintMore

theorem within_eq (x m : Int) (hm : 1 ≤ m ∧ m ≤ 4611686018427387904) : (if m = 0 then (none) else (if (Int.tmod x m) < 0 then (some (wrap64 ((Int.tmod x m) + m))) else (some (Int.tmod x m)))) = some (x % m) := by
  have h1 := Int.tmod_lt_of_pos x (show 0 < m by omega)
  have h2 := Int.lt_tmod_of_pos x (show 0 < m by omega)
  have h3 := Int.tmod_eq_emod (a := x) (b := m)
  rw [if_neg (by omega)]
  split
  · have e : wrap64 (Int.tmod x m + m) = Int.tmod x m + m := by unfold wrap64; omega
    rw [e]
    have h4 := Int.emod_nonneg x (show m ≠ 0 by omega)
    have h5 : Int.tmod x m = x % m ∨ Int.tmod x m = x % m - m := by
      rw [h3]; split
      · left; omega
      · right; omega
    rcases h5 with h | h
    · omega
    · rw [h]; congr 1; omega
  · congr 1
    have h4 := Int.emod_nonneg x (show m ≠ 0 by omega)
    have h6 := Int.emod_lt_of_pos x (show 0 < m by omega)
    have h5 : Int.tmod x m = x % m ∨ Int.tmod x m = x % m - m := by
      rw [h3]; split
      · left; omega
      · right; omega
    omega

theorem mod_in (x m : Int) (hm : 1 ≤ m) : 0 ≤ x % m ∧ x % m < m := ⟨Int.emod_nonneg x (by omega), Int.emod_lt_of_pos x (by omega)⟩

theorem make3_l0 (N : Int) (hN : 6 ≤ N ∧ N ≤ 12) (y0 y1 y2 y3 y4 : Int) (l : List Int) (pi e g fi : Int) : ∀ (k : Nat) (acc : List Int), 4 ≤ k + acc.length → acc.length ≤ 3 → (∀ a ∈ acc, -1 ≤ a ∧ a < N) →
    ∃ r : List Int, plaitinglaw3_Make.l0 k acc.length y0 y1 y2 y3 y4 l N pi e g fi acc = some (N, pi, e, g, fi, r) ∧ r.length ≤ 3 ∧ ∀ a ∈ r, -1 ≤ a ∧ a < N
  | 0, acc, hk, hl, _ => by omega
  | k + 1, acc, hk, hl, ha => by
    unfold plaitinglaw3_Make.l0
    by_cases h1 : (acc.length : Int) < l.length
    · rw [if_pos h1]
      by_cases h2 : (acc.length : Int) < 3
      · have hw : plaitinglaw3_within.f (rd l acc.length) (wrap64 (N + 1)) = some ((rd l acc.length) % (N + 1)) := by
          have e : wrap64 (N + 1) = N + 1 := by unfold wrap64; omega
          rw [e]; exact within_eq _ _ ⟨by omega, by omega⟩
        have hm := mod_in (rd l acc.length) (N + 1) (by omega)
        rw [if_pos h2, if_pos (by omega), hw]
        dsimp only [Option.bind]
        rw [if_pos (by omega)]
        have e1 : wrap64 ((acc.length : Int) + 1) = ((acc ++ [wrap64 (rd l acc.length % (N + 1) - 1)]).length : Int) := by
          rw [List.length_append, List.length_singleton]; unfold wrap64; omega
        rw [e1]
        refine make3_l0 N hN y0 y1 y2 y3 y4 l pi e g fi k _ ?_ ?_ ?_
        · rw [List.length_append, List.length_singleton]; omega
        · rw [List.length_append, List.length_singleton]; omega
        · intro a hh
          rcases List.mem_append.1 hh with h | h
          · exact ha a h
          · rw [List.mem_singleton] at h
            subst h
            unfold wrap64; omega
      · rw [if_neg h2]; exact ⟨acc, rfl, hl, ha⟩
    · rw [if_neg h1]; exact ⟨acc, rfl, hl, ha⟩

theorem make3_j0 (N : Int) (hN : 6 ≤ N ∧ N ≤ 12) (y0 y1 y2 y3 y4 : Int) (l : List Int) (pi e g fi : Int) (he : 0 ≤ e ∧ e < 21) (hg : 0 ≤ g ∧ g < 21) (hf : 0 ≤ fi ∧ fi ≤ 65535) :
    ∃ d : Sp.Conf, COk d ∧ plaitinglaw3_Make.j0 (10 + 1) y0 y1 y2 y3 y4 l N pi e g fi = some (d.f0, d.f1, d.f2, d.f3, d.f4, d.f5) := by
  have hw : plaitinglaw3_within.f y1 100 = some (y1 % 100) := within_eq _ _ (by omega)
  have hm := mod_in y1 100 (by omega)
  have ep : wrap64 ((wrap64 (4 * (wrap64 ((wrap64 (e + g)) + 1)))) + y1 % 100) = 4 * (e + g + 1) + y1 % 100 := by unfold wrap64; omega
  obtain ⟨r, h1, h2, h3⟩ := make3_l0 N hN y0 y1 y2 y3 y4 l (4 * (e + g + 1) + y1 % 100) e g fi 10 [] (by simp) (by simp) (by simp)
  refine ⟨⟨N, 4 * (e + g + 1) + y1 % 100, e, g, fi, r⟩, ?_, ?_⟩
  · show confOk _ _ _ _ _ _
    refine ⟨hN, by dsimp only; omega, by dsimp only; omega, hf, by dsimp only; omega, h2, h3⟩
  · have step : ∀ k, plaitinglaw3_Make.j0 (k + 1) y0 y1 y2 y3 y4 l N pi e g fi = (plaitinglaw3_within.f y1 100).bind fun t182 => (plaitinglaw3_Make.l0 k 0 y0 y1 y2 y3 y4 l N (wrap64 ((wrap64 (4 * (wrap64 ((wrap64 (e + g)) + 1)))) + t182)) e g fi ([] : List Int)) := fun _ => rfl
    rw [step 10, hw]
    dsimp only [Option.bind]
    rw [ep]
    exact h1

theorem make3_f (y0 y1 y2 y3 y4 : Int) (l : List Int) : ∃ d : Sp.Conf, COk d ∧ plaitinglaw3_Make.f (10 + 1) y0 y1 y2 y3 y4 l = some (d.f0, d.f1, d.f2, d.f3, d.f4, d.f5) := by
  have w7 : plaitinglaw3_within.f y0 7 = some (y0 % 7) := within_eq _ _ (by omega)
  have w21 : plaitinglaw3_within.f y2 21 = some (y2 % 21) := within_eq _ _ (by omega)
  have w21' : plaitinglaw3_within.f y3 21 = some (y3 % 21) := within_eq _ _ (by omega)
  have w65 : plaitinglaw3_within.f y4 65536 = some (y4 % 65536) := within_eq _ _ (by omega)
  have w3 : plaitinglaw3_within.f y4 3 = some (y4 % 3) := within_eq _ _ (by omega)
  have w40 : plaitinglaw3_within.f y4 40 = some (y4 % 40) := within_eq _ _ (by omega)
  have m1 := mod_in y0 7 (by omega)
  have m2 := mod_in y2 21 (by omega)
  have m3 := mod_in y3 21 (by omega)
  have m4 := mod_in y4 65536 (by omega)
  have m5 := mod_in y4 40 (by omega)
  have e0 : wrap64 (6 + y0 % 7) = 6 + y0 % 7 := by unfold wrap64; omega
  have e1 : wrap64 (65535 - y4 % 40) = 65535 - y4 % 40 := by unfold wrap64; omega
  unfold plaitinglaw3_Make.f
  rw [w7, w21, w21', w65, w3]
  dsimp only [Option.bind]
  rw [e0]
  split
  · rw [w40]
    dsimp only
    rw [e1]
    exact make3_j0 _ ⟨by omega, by omega⟩ _ _ _ _ _ _ _ _ _ _ m2 m3 ⟨by omega, by omega⟩
  · exact make3_j0 _ ⟨by omega, by omega⟩ _ _ _ _ _ _ _ _ _ _ m2 m3 ⟨by omega, by omega⟩

/-- what Make answers -/
theorem make3_calls (y0 y1 y2 y3 y4 : Int) (l : List Int) : ∃ d : Sp.Conf, COk d ∧ ∀ (A : Option Addr) (cp : Nat) (w : World), Kd.C (Kd.int .i64) w A l.length l → l.length ≤ cp →
    Calls Try.prog 22 #[.agg #[.int .i64 y0, .int .i64 y1, .int .i64 y2, .int .i64 y3, .int .i64 y4, .slice A l.length cp]] w fun e w' => ∃ (A' : Option Addr) (cp' : Nat), e = .returned (.agg #[.int .i64 d.f0, .int .i64 d.f1, .int .i64 d.f2, .int .i64 d.f3, .int .i64 d.f4, .slice A' d.f5.length cp']) ∧ d.f5.length ≤ cp' ∧ Kd.C (Kd.int .i64) w' A' d.f5.length d.f5 ∧ Below w.heap.size w w' := by
  obtain ⟨d, h1, h2⟩ := make3_f y0 y1 y2 y3 y4 l
  refine ⟨d, h1, fun A cp w hr hc => ?_⟩
  refine (plaitinglaw3_Make.calls (10 + 1) y0 y1 y2 y3 y4 A cp l d.f0 d.f1 d.f2 d.f3 d.f4 d.f5 w hr hc h2).mono ?_
  rintro e w' ⟨v, rfl, hR, hB⟩
  obtain ⟨A', c', rfl, h3, h4⟩ := Kd.R_reads hR
  exact ⟨A', c', rfl, h3, h4, hB⟩

theorem ends_calls (N k : Int) (w : World) (hN : 6 ≤ N ∧ N ≤ 12) (hk : 0 ≤ k ∧ k < 2 * N) :
    Calls Try.prog 37 #[.int .i64 N, .int .i64 k] w fun e w' => e = .returned (.tuple #[.int .i64 (if k < N then k else k - N), .int .i64 (if k < N then (k + 1) % N else (k - N + 2) % N)]) ∧ ∃ m, w' = w.drewN m := by
  refine (plaitingref4_Ends.calls N k _ _ w ?_).mono fun e w' ⟨h1, h2⟩ => ⟨h1, h2.out⟩
  unfold plaitingref4_Ends.f
  by_cases h : k < N
  · rw [if_pos h, if_neg (by omega), if_pos h, if_pos h]
    have e : wrap64 (k + 1) = k + 1 := by unfold wrap64; omega
    rw [e, Int.tmod_eq_emod_of_nonneg (by omega)]
  · rw [if_neg h, if_neg (by omega), if_neg h, if_neg h]
    have e : wrap64 (k - N) = k - N := by unfold wrap64; omega
    have e2 : wrap64 (k - N + 2) = k - N + 2 := by unfold wrap64; omega
    rw [e, e2, Int.tmod_eq_emod_of_nonneg (by omega)]

def rlinkOk (N a b : Nat) : Bool := !(decide (6 ≤ N) && decide (a < N) && decide (b < N)) || (match plaitingref4_Link.f 30 N a b with | some x => x.1 == (linkB N a b).1 && x.2 == (linkB N a b).2 | none => false)
theorem rlink_all : (List.range 13).all (fun N => (List.range 13).all fun a => (List.range 13).all fun b => rlinkOk N a b) = true := by kernel_rfl
theorem rlink_f (N a b : Nat) (hN : N < 13) (h6 : 6 ≤ N) (ha : a < N) (hb : b < N) : plaitingref4_Link.f 30 N a b = some (linkB N a b) := by
  have h := rlink_all
  rw [List.all_eq_true] at h
  have h := h N (List.mem_range.2 hN)
  rw [List.all_eq_true] at h
  have h := h a (List.mem_range.2 (by omega))
  rw [List.all_eq_true] at h
  have h := h b (List.mem_range.2 (by omega))
  unfold rlinkOk at h
  rw [decide_eq_true h6, decide_eq_true ha, decide_eq_true hb] at h
  split at h
  · rename_i x hx
    rw [hx]
    simp only [Bool.and_self, Bool.not_true, Bool.false_or, Bool.and_eq_true, beq_iff_eq] at h
    exact congrArg some (Prod.ext h.1 h.2)
  · simp at h

theorem rlink_calls (N a b : Int) (w : World) (hN : 6 ≤ N ∧ N ≤ 12) (ha : 0 ≤ a ∧ a < N) (hb : 0 ≤ b ∧ b < N) :
    Calls Try.prog 50 #[.int .i64 N, .int .i64 a, .int .i64 b] w fun e w' => e = .returned (.tuple #[.int .i64 (linkB N a b).1, .bool (linkB N a b).2]) ∧ ∃ m, w' = w.drewN m := by
  obtain ⟨N', rfl⟩ := Int.eq_ofNat_of_zero_le (show 0 ≤ N by omega)
  obtain ⟨a', rfl⟩ := Int.eq_ofNat_of_zero_le ha.1
  obtain ⟨b', rfl⟩ := Int.eq_ofNat_of_zero_le hb.1
  exact (plaitingref4_Link.calls 30 _ _ _ _ _ w (rlink_f N' a' b' (by omega) (by omega) (by omega) (by omega))).mono fun e w' ⟨h1, h2⟩ => ⟨h1, h2.out⟩
end Go.Proofs.Ytkelibikjkgohaa.P
