/- fault.Hits, Right: of any locus. -/
import Derived.Test.YtkelibikjkgohaaK
import Derived.Test.YtkelibikjkgohaaSp
import Derived.Test.YtkelibikjkgohaaBits
namespace Go.Proofs.Ytkelibikjkgohaa.P
set_option linter.unusedVariables false
open Go.RowKit Go.Proofs.YtkelibikjkgohaaW.PrintWords Go.Proofs.YtkelibikjkgohaaW.PrintLast Go.Proofs.YtkelibikjkgohaaW.PrintMore

theorem meth_node_hits (f1 : Int) (W : World) : (method 329 121 (.agg #[.int .i64 f1]) "plaiting/fault.hits").run Try.prog W = .ok (174, .agg #[.int .i64 f1]) W := by kernel_rfl

set_option maxRecDepth 100000 in
theorem hits_node (c0 c1 c2 c3 c4 : Int) (A0 : Option Addr) (n0 cp0 : Nat) (f1 f2 f3 : Int) (A4 : Option Addr) (n4 cp4 : Nat) (A5 : Option Addr) (n5 cp5 : Nat) (a b : Int) (w : World) :
    Calls Try.prog 40 #[.agg #[.int .i64 c0, .int .i64 c1, .int .i64 c2, .int .i64 c3, .int .i64 c4, .slice A0 n0 cp0], .agg #[.int .i64 1, .int .i64 f1, .int .i64 f2, .int .i64 f3, .slice A4 n4 cp4, .slice A5 n5 cp5], .int .i64 a, .int .i64 b] w fun e w' => e = .returned (.bool (a == f1)) ∧ Below w.heap.size w w' := by
  go_enter Try.func40, Try.ntmps40
  have hm := meth_node_hits
  go_wp2
  go_ret
  exact ⟨rfl, by repeat (first | exact Below.refl _ _ | apply below_alloc)⟩

theorem meth_none_hits (W : World) : (method 329 149 (.agg #[]) "plaiting/fault.hits").run Try.prog W = .ok (178, .agg #[]) W := by kernel_rfl

set_option maxRecDepth 100000 in
theorem hits_none (c0 c1 c2 c3 c4 : Int) (A0 : Option Addr) (n0 cp0 : Nat) (f0 f1 f2 f3 : Int) (A4 : Option Addr) (n4 cp4 : Nat) (A5 : Option Addr) (n5 cp5 : Nat) (a b : Int) (w : World) (h1 : f0 ≠ 1) (h2 : f0 ≠ 2) :
    Calls Try.prog 40 #[.agg #[.int .i64 c0, .int .i64 c1, .int .i64 c2, .int .i64 c3, .int .i64 c4, .slice A0 n0 cp0], .agg #[.int .i64 f0, .int .i64 f1, .int .i64 f2, .int .i64 f3, .slice A4 n4 cp4, .slice A5 n5 cp5], .int .i64 a, .int .i64 b] w fun e w' => e = .returned (.bool false) ∧ Below w.heap.size w w' := by
  have k1 : (f0 == 1) = false := beq_eq_false_iff_ne.2 h1
  have k2 : (f0 == 2) = false := beq_eq_false_iff_ne.2 h2
  clear h1 h2
  go_enter Try.func40, Try.ntmps40
  have hm := meth_none_hits
  go_wp2
  go_ret
  exact ⟨rfl, by repeat (first | exact Below.refl _ _ | apply below_alloc)⟩

theorem wrong_node (f1 a : Int) (w : World) : Calls Try.prog 81 #[.agg #[.int .i64 f1], .int .i64 a] w fun e w' => e = .returned (.bool (a == f1)) ∧ Below w.heap.size w w' := by
  go_enter Try.func81, Try.ntmps81
  go_wp2
  go_ret
  exact ⟨rfl, by repeat (first | exact Below.refl _ _ | apply below_alloc)⟩

theorem ta_node (v : Value) (W : World) : (Instr.typeAssert (.iface 121 v) 117 121 true).run Try.prog W = .ok (.tuple #[v, .bool true]) W := by kernel_rfl
theorem ta_link (v : Value) (W : World) : (Instr.typeAssert (.iface 147 v) 117 121 true).run Try.prog W = .ok (.tuple #[.agg #[.int .i64 0], .bool false]) W := by kernel_rfl
theorem ta_none (v : Value) (W : World) : (Instr.typeAssert (.iface 149 v) 117 121 true).run Try.prog W = .ok (.tuple #[.agg #[.int .i64 0], .bool false]) W := by kernel_rfl

set_option maxRecDepth 100000 in
set_option maxHeartbeats 1000000 in
theorem right_at (c0 c1 c2 c3 c4 : Int) (A0 : Option Addr) (n0 cp0 : Nat) (f1 f2 f3 : Int) (A4 : Option Addr) (n4 cp4 : Nat) (A5 : Option Addr) (n5 cp5 : Nat) (r a : Int) (w : World) (h : a = f1) :
    Calls Try.prog 42 #[.agg #[.int .i64 c0, .int .i64 c1, .int .i64 c2, .int .i64 c3, .int .i64 c4, .slice A0 n0 cp0], .agg #[.int .i64 1, .int .i64 f1, .int .i64 f2, .int .i64 f3, .slice A4 n4 cp4, .slice A5 n5 cp5], .int .i64 r, .int .i64 a] w fun e w' => e = .returned (.bool (decide (f3 ≤ r))) ∧ Below w.heap.size w w' := by
  have k : (a == f1) = true := beq_iff_eq.2 h
  clear h
  have ta := ta_node
  go_enter Try.func42, Try.ntmps42
  go_wp2
  go_ret
  exact ⟨rfl, by repeat (first | exact Below.refl _ _ | apply below_alloc)⟩

set_option maxRecDepth 100000 in
set_option maxHeartbeats 1000000 in
theorem right_off (c0 c1 c2 c3 c4 : Int) (A0 : Option Addr) (n0 cp0 : Nat) (f1 f2 f3 : Int) (A4 : Option Addr) (n4 cp4 : Nat) (A5 : Option Addr) (n5 cp5 : Nat) (r a : Int) (w : World) (h : a ≠ f1) :
    Calls Try.prog 42 #[.agg #[.int .i64 c0, .int .i64 c1, .int .i64 c2, .int .i64 c3, .int .i64 c4, .slice A0 n0 cp0], .agg #[.int .i64 1, .int .i64 f1, .int .i64 f2, .int .i64 f3, .slice A4 n4 cp4, .slice A5 n5 cp5], .int .i64 r, .int .i64 a] w fun e w' => e = .returned (.bool true) ∧ Below w.heap.size w w' := by
  have k : (a == f1) = false := beq_eq_false_iff_ne.2 h
  clear h
  have ta := ta_node
  go_enter Try.func42, Try.ntmps42
  go_wp2
  go_ret
  exact ⟨rfl, by repeat (first | exact Below.refl _ _ | apply below_alloc)⟩

set_option maxRecDepth 100000 in
set_option maxHeartbeats 1000000 in
theorem right_link (c0 c1 c2 c3 c4 : Int) (A0 : Option Addr) (n0 cp0 : Nat) (f1 f2 f3 : Int) (A4 : Option Addr) (n4 cp4 : Nat) (A5 : Option Addr) (n5 cp5 : Nat) (r a : Int) (w : World) :
    Calls Try.prog 42 #[.agg #[.int .i64 c0, .int .i64 c1, .int .i64 c2, .int .i64 c3, .int .i64 c4, .slice A0 n0 cp0], .agg #[.int .i64 2, .int .i64 f1, .int .i64 f2, .int .i64 f3, .slice A4 n4 cp4, .slice A5 n5 cp5], .int .i64 r, .int .i64 a] w fun e w' => e = .returned (.bool true) ∧ Below w.heap.size w w' := by
  have ta := ta_link
  go_enter Try.func42, Try.ntmps42
  go_wp2
  go_ret
  exact ⟨rfl, by repeat (first | exact Below.refl _ _ | apply below_alloc)⟩

set_option maxRecDepth 100000 in
set_option maxHeartbeats 1000000 in
theorem right_none (c0 c1 c2 c3 c4 : Int) (A0 : Option Addr) (n0 cp0 : Nat) (f0 f1 f2 f3 : Int) (A4 : Option Addr) (n4 cp4 : Nat) (A5 : Option Addr) (n5 cp5 : Nat) (r a : Int) (w : World) (h1 : f0 ≠ 1) (h2 : f0 ≠ 2) :
    Calls Try.prog 42 #[.agg #[.int .i64 c0, .int .i64 c1, .int .i64 c2, .int .i64 c3, .int .i64 c4, .slice A0 n0 cp0], .agg #[.int .i64 f0, .int .i64 f1, .int .i64 f2, .int .i64 f3, .slice A4 n4 cp4, .slice A5 n5 cp5], .int .i64 r, .int .i64 a] w fun e w' => e = .returned (.bool true) ∧ Below w.heap.size w w' := by
  have k1 : (f0 == 1) = false := beq_eq_false_iff_ne.2 h1
  have k2 : (f0 == 2) = false := beq_eq_false_iff_ne.2 h2
  clear h1 h2
  have ta := ta_none
  go_enter Try.func42, Try.ntmps42
  go_wp2
  go_ret
  exact ⟨rfl, by repeat (first | exact Below.refl _ _ | apply below_alloc)⟩

/-- fault.Right -/
def rightB (f0 f1 f3 r a : Int) : Bool := !(f0 == 1) || !(a == f1) || decide (f3 ≤ r)

theorem right_any (c0 c1 c2 c3 c4 : Int) (A0 : Option Addr) (n0 cp0 : Nat) (f0 f1 f2 f3 : Int) (A4 : Option Addr) (n4 cp4 : Nat) (A5 : Option Addr) (n5 cp5 : Nat) (r a : Int) (w : World) :
    Calls Try.prog 42 #[.agg #[.int .i64 c0, .int .i64 c1, .int .i64 c2, .int .i64 c3, .int .i64 c4, .slice A0 n0 cp0], .agg #[.int .i64 f0, .int .i64 f1, .int .i64 f2, .int .i64 f3, .slice A4 n4 cp4, .slice A5 n5 cp5], .int .i64 r, .int .i64 a] w fun e w' => e = .returned (.bool (rightB f0 f1 f3 r a)) ∧ Below w.heap.size w w' := by
  by_cases h1 : f0 = 1
  · subst h1
    by_cases ha : a = f1
    · rw [show rightB 1 f1 f3 r a = decide (f3 ≤ r) from by unfold rightB; simp [ha]]
      exact right_at c0 c1 c2 c3 c4 A0 n0 cp0 f1 f2 f3 A4 n4 cp4 A5 n5 cp5 r a w ha
    · rw [show rightB 1 f1 f3 r a = true from by unfold rightB; simp [ha]]
      exact right_off c0 c1 c2 c3 c4 A0 n0 cp0 f1 f2 f3 A4 n4 cp4 A5 n5 cp5 r a w ha
  · rw [show rightB f0 f1 f3 r a = true from by unfold rightB; simp [h1]]
    by_cases h2 : f0 = 2
    · subst h2
      exact right_link c0 c1 c2 c3 c4 A0 n0 cp0 f1 f2 f3 A4 n4 cp4 A5 n5 cp5 r a w
    · exact right_none c0 c1 c2 c3 c4 A0 n0 cp0 f0 f1 f2 f3 A4 n4 cp4 A5 n5 cp5 r a w h1 h2
end Go.Proofs.Ytkelibikjkgohaa.P
