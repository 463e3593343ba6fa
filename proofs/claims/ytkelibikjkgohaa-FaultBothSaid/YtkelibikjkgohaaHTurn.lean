/- sym.Turn: what the call answers, on bytes. -/
import Derived.Test.YtkelibikjkgohaaK
import Derived.Test.YtkelibikjkgohaaSp
import Derived.Lib.ConvBytes
import Derived.Laws.BytesArg
import Derived.Lib.Hide
namespace Go.Proofs.Ytkelibikjkgohaa.P
set_option linter.unusedVariables false
open Go.RowKit Go.Proofs.YtkelibikjkgohaaW.PrintWords Go.Proofs.YtkelibikjkgohaaW.PrintLast Go.Proofs.YtkelibikjkgohaaW.PrintMore

def sym_Turn.f (a0 : ByteArray) (a1 : Int) : Option ByteArray :=
  if a0.size ≤ 4611686018427387904 then some (if a1 < 0 ∨ a1 ≥ a0.size then a0 else Sp.ofL (Sp.turn (Sp.toL a0) a1.toNat)) else none

theorem frozen_bytes (w : World) (e : TypeId) (s : ByteArray) (j : Nat) (hj : j < s.size) : (Lib.bytesWorld w e s).frozen? ⟨w.heap.size, j, none⟩ = false := by
  have hc : j < (Lib.bytesCells w e s).size := by simp [Lib.bytesCells]; exact Nat.lt_of_lt_of_le hj (Nat.le_add_right _ _)
  simp [World.frozen?, Lib.bytesWorld_at_new]
  omega

theorem turned_calls (c : UInt8) (w : World) : Calls Try.prog 119 #[.int .u8 c.toNat] w fun e w' => e = .returned (.int .u8 (Sp.turned c).toNat) ∧ w = w' := by
  have hc : ∀ n : Nat, n < 256 → c ≠ UInt8.ofNat n → ((c.toNat : Int) == n) = false := fun n hn hne => by
    refine beq_eq_false_iff_ne.2 fun e => hne ?_
    apply UInt8.toNat_inj.1
    rw [UInt8.toNat_ofNat']
    omega
  by_cases e1 : c = 49
  · subst e1
    go_enter Try.func119, Try.ntmps119
    go_wp2
    go_ret
    exact ⟨rfl, rfl⟩
  · by_cases e2 : c = 35
    · subst e2
      go_enter Try.func119, Try.ntmps119
      go_wp2
      go_ret
      exact ⟨rfl, rfl⟩
    · by_cases e3 : c = 48
      · subst e3
        go_enter Try.func119, Try.ntmps119
        go_wp2
        go_ret
        exact ⟨rfl, rfl⟩
      · have h1 : ((c.toNat : Int) == 49) = false := hc 49 (by decide) e1
        have h2 : ((c.toNat : Int) == 35) = false := hc 35 (by decide) e2
        have h3 : ((c.toNat : Int) == 48) = false := hc 48 (by decide) e3
        have HT : Hid (Sp.turned c = c) := Lib.hid (by unfold Sp.turned; rw [if_neg e3, if_neg e1, if_neg e2])
        clear e1 e2 e3 hc
        go_enter Try.func119, Try.ntmps119
        go_wp2
        go_ret
        exact ⟨by rw [HT.out]; rfl, rfl⟩

theorem turn_set (s : Sp.Str) (k : Nat) (h : k < s.length) : Sp.turn s k = s.set k (Sp.turned s[k]) := by
  induction s generalizing k with
  | nil => exact absurd h (by simp)
  | cons c t ih =>
    cases k with
    | zero => rfl
    | succ k => simp only [Sp.turn, List.set_cons_succ, List.getElem_cons_succ]; rw [ih k (by simpa using h)]

theorem nums_back (s : Sp.Str) : strOfNums (s.map fun c => (c.toNat : Int)) = Sp.ofL s := by
  unfold strOfNums Sp.ofL
  congr 1
  apply Array.ext'
  rw [List.map_map]
  have : ((fun n : Int => UInt8.ofNat n.toNat) ∘ fun c : UInt8 => (c.toNat : Int)) = id := by
    funext c
    simp
  rw [this, List.map_id]

set_option maxRecDepth 100000 in
set_option maxHeartbeats 1000000 in
theorem sym_Turn.calls (a0 : ByteArray) (a1 : Int) (r : ByteArray) (w : World) (h : sym_Turn.f a0 a1 = some r) :
    Calls Try.prog 100 #[.string a0, .int .i64 a1] w fun e w' => e = .returned (.string r) ∧ Below w.heap.size w w' := by
  unfold sym_Turn.f at h
  split at h
  case isFalse => exact absurd h (by simp)
  rename_i hs
  have hr := Option.some.inj h
  clear h
  by_cases h0 : a1 < 0
  · have HR : Hid (r = a0) := Lib.hid (by rw [← hr, if_pos (.inl h0)])
    clear hr
    go_enter Try.func100, Try.ntmps100
    go_wp2
    go_ret
    exact ⟨by rw [HR.out]; rfl, Below.refl _ _⟩
  · by_cases h1 : a1 ≥ a0.size
    · have HR : Hid (r = a0) := Lib.hid (by rw [← hr, if_pos (.inr h1)])
      clear hr
      go_enter Try.func100, Try.ntmps100
      go_wp2
      go_ret
      exact ⟨by rw [HR.out]; rfl, Below.refl _ _⟩
    · obtain ⟨k, rfl⟩ := Int.eq_ofNat_of_zero_le (show 0 ≤ a1 by omega)
      have HR : Hid (r = Sp.ofL (Sp.turn (Sp.toL a0) k)) := Lib.hid (by rw [← hr, if_neg (by omega)]; rfl)
      clear hr
      have hk : k < a0.size := by omega
      have hconv := Lib.run_convert_string_bytes (P := Try.prog) w 9 56 5 a0 Try.underlying9 Try.underlying56 Try.underlying5
      have hcell := Lib.bytesWorld_cell w 5 a0 k hk
      have hfro := frozen_bytes w 5 a0 k hk
      have hsz := Lib.bytesWorld_size w 5 a0
      generalize grownCap w a0.size 0 5 = cap at hconv
      go_enter Try.func100, Try.ntmps100
      have hback : ∀ x : Int, (convert 56 9 (.slice (some ⟨w.heap.size, 0, none⟩) a0.size cap)).run Try.prog ((Lib.bytesWorld w 5 a0).setCell ⟨w.heap.size, k, none⟩ (.int .u8 x)) = .ok (.string (strOfNums (((Sp.toL a0).map fun c => (c.toNat : Int)).set k x))) ((Lib.bytesWorld w 5 a0).setCell ⟨w.heap.size, k, none⟩ (.int .u8 x)) := by
        intro x
        refine run_convert_bytes_arg _ 56 5 Try.underlying56 Try.underlying5 w.heap.size 0 a0.size cap _ (by simp [Sp.toL_length]) (fun i hi => ?_) 9 Try.underlying9
        rw [Nat.zero_add]
        have hold := fun j hj => Lib.bytesWorld_cell w 5 a0 j hj
        by_cases hik : i = k
        · subst hik
          rw [World.cell?_setCell_same _ _ _ (hold i hi)]
          simp [Sp.toL_length, hi]
        · rw [World.cell?_setCell_other _ _ _ _ (fun e => hik (by injection e with _ e _; exact e.symm)), hold i hi]
          simp [Ne.symm hik, Sp.toL, List.getD_eq_getElem?_getD, hi]
      go_wp2_with (go_at_call 119; (with_reducible refine (turned_calls _ _).mono ?_); rintro e w1 ⟨rfl, rfl⟩)
      go_ret
      refine ⟨?_, below_set ⟨rfl, rfl, rfl, by rw [hsz]; omega, fun j hj => Lib.bytesWorld_at_old w 5 a0 j hj⟩ (Nat.le_refl _)⟩
      rw [HR.out, turn_set _ _ (by rw [Sp.toL_length]; exact hk)]
      have hg : (Sp.toL a0)[k]'(by rw [Sp.toL_length]; exact hk) = a0.data[k] := rfl
      rw [hg, ← nums_back, List.map_set]
      rfl
end Go.Proofs.Ytkelibikjkgohaa.P
