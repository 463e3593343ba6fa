/- Bits of whole numbers, as the walks spell them. -/
import Derived.Laws.BitsLemmas
import Derived.RowKit
import Derived.Deep.QuietTactic
import Derived.Lib.Hide
import Derived.Below
namespace Go.Proofs.Ytkelibikjkgohaa.P

theorem i64_mask (n : Int) (j : Nat) (hj : j ≤ 62) (m : Int) (hm : (BitVec.ofInt 64 m).toNat = 2 ^ j - 1) : bits .and .i64 n m = n % 2 ^ j := by
  have key : (BitVec.ofInt 64 n &&& BitVec.ofInt 64 m).toNat = (n % ((2 ^ 64 : Nat) : Int)).toNat % 2 ^ j := by
    rw [BitVec.toNat_and, BitVec.toNat_ofInt, hm, Nat.and_two_pow_sub_one_eq_mod]
  show IntKind.i64.wrap ((BitVec.ofInt 64 n &&& BitVec.ofInt 64 m).toNat : Nat) = n % 2 ^ j
  have hp : (2 : Nat) ^ j ≤ 2 ^ 62 := Nat.pow_le_pow_right (by decide) hj
  have hpos : 0 < (2 : Nat) ^ j := Nat.two_pow_pos j
  have hlt := Nat.mod_lt ((n % ((2 ^ 64 : Nat) : Int)).toNat) hpos
  rw [key, IntKind.wrap_i64]
  have h64 : (0 : Int) ≤ n % ((2 ^ 64 : Nat) : Int) := Int.emod_nonneg _ (by decide)
  have e : (((n % ((2 ^ 64 : Nat) : Int)).toNat % 2 ^ j : Nat) : Int) = n % 2 ^ j := by
    rw [Int.natCast_emod, Int.toNat_of_nonneg h64]
    have hc : ((2 ^ j : Nat) : Int) = (2 : Int) ^ j := by simp
    rw [hc]
    have hd : (2 : Int) ^ j ∣ ((2 ^ 64 : Nat) : Int) := by
      have : (2 : Nat) ^ j ∣ 2 ^ 64 := Nat.pow_dvd_pow 2 (by omega)
      have h2 := Int.natCast_dvd_natCast.2 this
      rwa [hc] at h2
    exact Int.emod_emod_of_dvd n hd
  omega

theorem i64_and65535 (n : Int) : bits .and .i64 n 65535 = n % 65536 := i64_mask n 16 (by decide) 65535 (by decide)
theorem i64_and1 (n : Int) : bits .and .i64 n 1 = n % 2 := i64_mask n 1 (by decide) 1 (by decide)

theorem i64_xor4129 (n : Int) (h0 : 0 ≤ n) (h1 : n < 65536) : bits .xor .i64 n 4129 = ((n.toNat ^^^ 4129 : Nat) : Int) := by
  obtain ⟨a, rfl⟩ := Int.eq_ofNat_of_zero_le h0
  have ha : a < 2 ^ 16 := by omega
  have hx : a ^^^ 4129 < 2 ^ 16 := Nat.xor_lt_two_pow ha (by decide)
  have e1 : (BitVec.ofInt 64 (a : Int)).toNat = a := by
    rw [BitVec.ofInt_natCast, BitVec.toNat_ofNat]; exact Nat.mod_eq_of_lt (by omega)
  have e2 : (BitVec.ofInt 64 4129).toNat = 4129 := by decide
  show IntKind.i64.wrap ((BitVec.ofInt 64 (a : Int) ^^^ BitVec.ofInt 64 4129).toNat : Nat) = _
  rw [BitVec.toNat_xor, e1, e2, IntKind.wrap_i64, Int.toNat_natCast]
  omega

theorem quiet_add {P : Program} {f : FuncId} {args : Array Value} {w : World} {a n : Nat} {v : Value}
    (h : Calls P f args (w.drewN (a + n)) fun e w' => e = .returned v ∧ ∃ m, w' = (w.drewN (a + n)).drewN m) :
    Calls P f args (w.drewN (a + n)) fun e w'' => e = .returned v ∧ ∃ m, w'' = w.drewN (a + m) :=
  h.mono fun _ _ ⟨he, m, hm⟩ => ⟨he, n + m, by rw [hm, World.drewN_drewN, Nat.add_assoc]⟩
theorem quiet_add_same {P : Program} {f : FuncId} {args : Array Value} {w : World} {a n : Nat} {v : Value}
    (h : Calls P f args (w.drewN (a + n)) fun e w' => e = .returned v ∧ w' = w.drewN (a + n)) :
    Calls P f args (w.drewN (a + n)) fun e w'' => e = .returned v ∧ ∃ m, w'' = w.drewN (a + m) :=
  h.mono fun _ _ ⟨he, hm⟩ => ⟨he, n, hm⟩
end Go.Proofs.Ytkelibikjkgohaa.P
