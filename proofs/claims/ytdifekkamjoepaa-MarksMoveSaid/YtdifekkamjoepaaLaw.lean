/- The plain laws of ropes. -/
import Derived.Test.YtdifekkamjoepaaVm2
import Derived.Test.YtdifekkamjoepaaFns
namespace Go.Proofs.Ytdifekkamjoepaa.Vm
open Go

section
variable {α β : Type}
@[simp] theorem iteB_true (a b : Option α) : iteB true a b = a := rfl
@[simp] theorem iteB_false (a b : Option α) : iteB false a b = b := rfl
@[simp] theorem mustR_true (κ : Option α) : mustR true κ = κ := rfl
@[simp] theorem bindR_val (y : β) (κ : β → Option α) : bindR (some y) κ = κ y := rfl
theorem iteB_eq (c : Bool) (a b : Option α) : iteB c a b = if c = true then a else b := by cases c <;> rfl
theorem iteB_pos {c : Bool} (h : c = true) (a b : Option α) : iteB c a b = a := by subst h; rfl
theorem iteB_neg {c : Bool} (h : c = false) (a b : Option α) : iteB c a b = b := by subst h; rfl
theorem iteB_dec {p : Prop} [Decidable p] (a b : Option α) : iteB (decide p) a b = if p then a else b := by
  by_cases h : p
  · rw [if_pos h]; exact iteB_pos (decide_eq_true h) a b
  · rw [if_neg h]; exact iteB_neg (decide_eq_false h) a b
theorem mustR_pos {c : Bool} (h : c = true) (κ : Option α) : mustR c κ = κ := by subst h; rfl
theorem mustR_dec {p : Prop} [Decidable p] (h : p) (κ : Option α) : mustR (decide p) κ = κ := mustR_pos (decide_eq_true h) κ
theorem withinR_nat {i n : Nat} (h : i < n) (κ : Nat → Option α) : withinR (i : Int) n κ = κ i := by
  unfold withinR
  rw [mustR_dec (by omega), mustR_dec (by omega)]; rfl
theorem withinR_pos {i : Int} {n : Nat} (h0 : 0 ≤ i) (h : i < n) (κ : Nat → Option α) : withinR i n κ = κ i.toNat := by
  unfold withinR
  rw [mustR_dec h0, mustR_dec h]
theorem withinR_zero {n : Nat} (h : 0 < n) (κ : Nat → Option α) : withinR 0 n κ = κ 0 := withinR_nat (i := 0) h κ
theorem notB_eq (b : Bool) : notB b = !b := rfl
@[simp] theorem notB_true : notB true = false := rfl
@[simp] theorem notB_false : notB false = true := rfl
theorem w64_id {n : Int} (h0 : -9223372036854775808 ≤ n) (h1 : n < 9223372036854775808) : w64 n = n := by
  simp [w64, IntKind.wrap, IntKind.bits, IntKind.signed]; omega
theorem w8_id {n : Int} (h0 : 0 ≤ n) (h1 : n < 256) : w8 n = n := by
  simp [w8, IntKind.wrap, IntKind.bits, IntKind.signed]; omega
theorem byteAt_range (l : List UInt8) (i : Nat) : 0 ≤ byteAt l i ∧ byteAt l i < 256 := by
  have := (List.getD l i 0).toNat_lt
  unfold byteAt; omega
theorem w64_byte (l : List UInt8) (i : Nat) : w64 (byteAt l i) = byteAt l i := by
  have := byteAt_range l i
  exact w64_id (by omega) (by omega)

theorem w64_nat {n : Nat} (h : n < 9223372036854775808) : w64 (n : Int) = n := w64_id (by omega) (by omega)
end
end Go.Proofs.Ytdifekkamjoepaa.Vm
namespace Go.Proofs.Ytdifekkamjoepaa.Vm.Rp
open Go Go.Proofs.Ytdifekkamjoepaa.Vm
set_option linter.unusedVariables false

def isF (c : UInt8) : Bool := decide (128 ≤ c.toNat ∧ c.toNat ≤ 191)
def sg (s : List UInt8) : Nat := s.countP (fun c => !isF c)
def nl (s : List UInt8) : Nat := s.count 10
theorem fuel_gt (n : Nat) (h : n < 1000000000000000) : n < fuel := by unfold fuel; omega
def leafN (s : List UInt8) : N0 := .mk s.length (nl s) (sg s) 1 s none none
def nodeN (s : List UInt8) (h : Nat) (a b : N0) : N0 := .mk s.length (nl s) (sg s) h [] (some a) (some b)
inductive Tr : Nat → List UInt8 → N0 → Prop
  | leaf {s} : 0 < s.length → s.length ≤ 64 → Tr 1 s (leafN s)
  | node {ha hb sa sb a b} : Tr ha sa a → Tr hb sb b → ha ≤ hb + 1 → hb ≤ ha + 1 → Tr (1 + max ha hb) (sa ++ sb) (nodeN (sa ++ sb) (1 + max ha hb) a b)
def TrO (h : Nat) (s : List UInt8) : Option N0 → Prop
  | none => h = 0 ∧ s = []
  | some n => Tr h s n
section
variable {h ha hb : Nat} {s sa sb : List UInt8} {n a b : N0}
theorem Tr.pos (H : Tr h s n) : 1 ≤ h := by cases H <;> omega
theorem Tr.fields (H : Tr h s n) : (out0 n).1 = ((s.length : Int), ((nl s : Int), ((sg s : Int), (h : Int)))) := by cases H <;> rfl
theorem Tr.len (H : Tr h s n) : (out0 n).1.1 = (s.length : Int) := by rw [H.fields]
theorem Tr.ht (H : Tr h s n) : (out0 n).1.2.2.2 = (h : Int) := by rw [H.fields]
@[simp] theorem leaf_l : (out0 (leafN s)).2.2.1 = none := rfl
@[simp] theorem leaf_r : (out0 (leafN s)).2.2.2 = none := rfl
@[simp] theorem leaf_t : (out0 (leafN s)).2.1 = s := rfl
@[simp] theorem node_l : (out0 (nodeN s h a b)).2.2.1 = some a := rfl
@[simp] theorem node_r : (out0 (nodeN s h a b)).2.2.2 = some b := rfl
@[simp] theorem node_t : (out0 (nodeN s h a b)).2.1 = [] := rfl

end
end Go.Proofs.Ytdifekkamjoepaa.Vm.Rp
namespace Go.Proofs.Ytdifekkamjoepaa.Vm.Rp
open Go Go.Proofs.Ytdifekkamjoepaa.Vm
set_option linter.unusedVariables false
section
variable {h ha hb : Nat} {s sa sb : List UInt8} {n a b : N0}

def Ro (s : List UInt8) (o : Option N0) : Prop := ∃ h, TrO h s o
end
end Go.Proofs.Ytdifekkamjoepaa.Vm.Rp
namespace Go.Proofs.Ytdifekkamjoepaa.Vm.Rp
open Go Go.Proofs.Ytdifekkamjoepaa.Vm
set_option linter.unusedVariables false

section
variable {s : List UInt8} {o : Option N0}
theorem Ro.nil : Ro [] none := ⟨0, rfl, rfl⟩
end
end Go.Proofs.Ytdifekkamjoepaa.Vm.Rp
namespace Go.Proofs.Ytdifekkamjoepaa.Vm.Rp
open Go Go.Proofs.Ytdifekkamjoepaa.Vm
set_option linter.unusedVariables false

def ln : List UInt8 → Nat → Nat
  | [], _ => 0
  | c :: s, k => if c = 10 then (if k = 1 then 1 else 1 + ln s (k - 1)) else 1 + ln s k
section
variable {s : List UInt8} {o : Option N0}
theorem rfollower_eq (c : UInt8) : s_ref01_Follower ((c.toNat : Int), ()) = some (isF c, ()) := by
  simp only [s_ref01_Follower, ref01_Follower.p0, ref01_Follower.t0, iteB_dec, isF]
  by_cases h0 : (128 : Int) ≤ c.toNat <;> by_cases h1 : (c.toNat : Int) ≤ 191 <;> simp [h0, h1] <;> omega
end
end Go.Proofs.Ytdifekkamjoepaa.Vm.Rp
namespace Go.Proofs.Ytdifekkamjoepaa.Vm.Rp
open Go Go.Proofs.Ytdifekkamjoepaa.Vm
set_option linter.unusedVariables false

abbrev Op := Int × Int × Int × List UInt8
structure Inv (i : Nat) (x7 : List (Option N0)) (x8 : List (List UInt8)) : Prop where
  same : x7.length = x8.length
  pos : 1 ≤ x7.length
  le : x7.length ≤ i + 1
  ro : ∀ j, j < x7.length → Ro (x8.getD j []) (x7.getD j none) ∧ (x8.getD j []).length ≤ 4000
section
end
end Go.Proofs.Ytdifekkamjoepaa.Vm.Rp
