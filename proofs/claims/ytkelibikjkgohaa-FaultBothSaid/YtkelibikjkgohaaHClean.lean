/- sym.Clean: what the call answers, on bytes. -/
import Derived.Test.YtkelibikjkgohaaK
import Derived.Test.YtkelibikjkgohaaSp
import Derived.Laws.RangeString
import Derived.Laws.RangeAny
import Derived.Lib.Hide
namespace Go.Proofs.Ytkelibikjkgohaa.P
set_option linter.unusedVariables false
open Go.RowKit Go.Proofs.YtkelibikjkgohaaW.PrintWords Go.Proofs.YtkelibikjkgohaaW.PrintLast Go.Proofs.YtkelibikjkgohaaW.PrintMore

def sym_Clean.f (a0 : ByteArray) : Option ByteArray := if a0.size ≤ 4611686018427387904 then some (Sp.ofL (Sp.clean (Sp.toL a0))) else none

theorem clean_at (s : ByteArray) (pos : Nat) (h : pos < s.size) : Sp.clean ((Sp.toL s).drop pos) = if s[pos] = 35 then [35] else if Sp.isBit s[pos] = true then s[pos] :: Sp.clean ((Sp.toL s).drop (pos + 1)) else [] := by
  rw [Sp.drop_cons s pos h, Sp.clean]

theorem below_iter (w : World) (s : ByteArray) (pos : Nat) : Below w.heap.size w (w.iter s pos) := below_alloc (Below.refl _ _) _

theorem u8_int (c : UInt8) (n : Nat) (h : n < 256) : ((c.toNat : Int) = n) ↔ c = UInt8.ofNat n := by
  constructor
  · intro e
    apply UInt8.toNat_inj.1
    rw [UInt8.toNat_ofNat']
    omega
  · rintro rfl
    rw [UInt8.toNat_ofNat']
    omega

set_option maxHeartbeats 1000000 in
theorem sym_Clean.calls (a0 r : ByteArray) (w : World) (h : sym_Clean.f a0 = some r) :
    Calls Try.prog 99 #[.string a0] w fun e w' => e = .returned (.string r) ∧ Below w.heap.size w w' := by
  unfold sym_Clean.f at h
  split at h
  case isFalse => exact absurd h (by simp)
  rename_i hs
  obtain rfl := Option.some.inj h
  clear h
  go_enter Try.func99, Try.ntmps99
  go_wp2
  go_loopw [] (fun w' => ∃ pos : Nat, w' = w.iter a0 pos ∧ pos ≤ a0.size ∧ Hid (Sp.clean (Sp.toL a0) = (Sp.toL a0).take pos ++ Sp.clean ((Sp.toL a0).drop pos))) (fun w' => a0.size - w'.iterPos w.heap.size)
  case atStart => exact ⟨0, rfl, Nat.zero_le _, Lib.hid rfl⟩
  case round =>
    obtain ⟨pos, rfl, hp, HI⟩ := hrel
    by_cases hlt : pos < a0.size
    · have hnx : ∀ ty, (Instr.next (.pointer (some ⟨w.heap.size, 0, none⟩)) true ty).run Try.prog (w.iter a0 pos) = _ := fun ty => run_next_any w a0 pos ty hlt
      have hc := clean_at a0 pos hlt
      by_cases h35 : a0[pos] = 35
      · have hd : Utf8.decode a0 pos = (35, 1) := by rw [decode_ascii a0 pos hlt (by rw [h35]; decide), h35]; rfl
        rw [hd] at hnx
        have HC : Hid (Sp.clean (Sp.toL a0) = (Sp.toL a0).take (pos + 1)) := Lib.hid (by
          rw [HI.out, hc, if_pos h35, Sp.take_succ a0 pos hlt, h35])
        clear hc hd HI h35
        go_wp2
        go_ret
        exact ⟨by rw [HC.out, Sp.extract_ofL]; simp, below_iter _ _ _⟩
      by_cases hb : a0[pos] = 48 ∨ a0[pos] = 49
      · have hd : Utf8.decode a0 pos = (a0[pos].toNat, 1) := decode_ascii a0 pos hlt (by rcases hb with e | e <;> rw [e] <;> decide)
        have hbit : Sp.isBit a0[pos] = true := by rcases hb with e | e <;> rw [e] <;> rfl
        have HC : Hid (Sp.clean (Sp.toL a0) = (Sp.toL a0).take (pos + 1) ++ Sp.clean ((Sp.toL a0).drop (pos + 1))) := Lib.hid (by
          rw [HI.out, hc, if_neg h35, if_pos hbit, Sp.take_succ a0 pos hlt]; simp)
        clear hc HI h35 hbit
        rcases hb with e | e
        all_goals
          rw [hd, e] at hnx
          clear hd e
          go_wp2
          go_roundw
          case rel => exact ⟨pos + 1, rfl, hlt, HC⟩
          case measure => simp; omega
      · have HC : Hid (Sp.clean (Sp.toL a0) = (Sp.toL a0).take pos) := Lib.hid (by
          have hbit : ¬ Sp.isBit a0[pos] = true := by
            unfold Sp.isBit
            simp only [Bool.or_eq_true, beq_iff_eq]
            exact hb
          rw [HI.out, hc, if_neg h35, if_neg hbit, List.append_nil])
        have hx : ∃ x : Nat, (Utf8.decode a0 pos).1 = x ∧ x ≠ 35 ∧ x ≠ 48 ∧ x ≠ 49 := by
          refine ⟨_, rfl, ?_⟩
          by_cases ha : a0[pos].toNat < 128
          · rw [decode_ascii a0 pos hlt ha]
            refine ⟨fun e => h35 ?_, fun e => hb (.inl ?_), fun e => hb (.inr ?_)⟩ <;> exact UInt8.toNat_inj.1 e
          · have := (decode_high a0 pos hlt (by omega)).1
            omega
        obtain ⟨x, hx, h1, h2, h3⟩ := hx
        rw [hx] at hnx
        generalize (Utf8.decode a0 pos).2 = n at hnx
        have k1 : ((x : Int) == 35) = false := beq_eq_false_iff_ne.2 (by omega)
        have k2 : ((x : Int) == 48) = false := beq_eq_false_iff_ne.2 (by omega)
        have k3 : ((x : Int) == 49) = false := beq_eq_false_iff_ne.2 (by omega)
        clear hc HI h35 hb hx h1 h2 h3
        go_wp2
        go_ret
        exact ⟨by rw [HC.out, Sp.extract_ofL]; simp, below_iter _ _ _⟩
    · have hnx : ∀ ty, (Instr.next (.pointer (some ⟨w.heap.size, 0, none⟩)) true ty).run Try.prog (w.iter a0 pos) = _ := fun ty => run_next_end w a0 pos ty hlt
      have HC : Hid (Sp.clean (Sp.toL a0) = Sp.toL a0) := Lib.hid (by
        have hl := Sp.toL_length a0
        have h2 := HI.out
        rw [List.take_of_length_le (by omega), List.drop_of_length_le (by omega)] at h2
        rw [h2]; simp [Sp.clean])
      clear HI
      go_wp2
      go_ret
      exact ⟨by rw [HC.out, Sp.ofL_toL]; rfl, below_iter _ _ _⟩
end Go.Proofs.Ytkelibikjkgohaa.P
