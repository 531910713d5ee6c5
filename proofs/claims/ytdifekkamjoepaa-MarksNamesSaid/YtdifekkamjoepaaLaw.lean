/- The plain laws of ropes. -/
import Derived.Test.YtdifekkamjoepaaVm2
import Derived.Test.YtdifekkamjoepaaFns
namespace Go.Proofs.Ytdifekkamjoepaa.Vm
open Go

section
variable {α β : Type}
@[simp] theorem iteB_true (a b : Option α) : iteB true a b = a := rfl
@[simp] theorem iteB_false (a b : Option α) : iteB false a b = b := rfl
@[simp] theorem mustR_true (κ : Option α) : mustR true κ = κ := rfl
@[simp] theorem bindR_val (y : β) (κ : β → Option α) : bindR (some y) κ = κ y := rfl
theorem iteB_pos {c : Bool} (h : c = true) (a b : Option α) : iteB c a b = a := by subst h; rfl
theorem iteB_neg {c : Bool} (h : c = false) (a b : Option α) : iteB c a b = b := by subst h; rfl
theorem iteB_dec {p : Prop} [Decidable p] (a b : Option α) : iteB (decide p) a b = if p then a else b := by
  by_cases h : p
  · rw [if_pos h]; exact iteB_pos (decide_eq_true h) a b
  · rw [if_neg h]; exact iteB_neg (decide_eq_false h) a b
theorem mustR_pos {c : Bool} (h : c = true) (κ : Option α) : mustR c κ = κ := by subst h; rfl
theorem mustR_dec {p : Prop} [Decidable p] (h : p) (κ : Option α) : mustR (decide p) κ = κ := mustR_pos (decide_eq_true h) κ
theorem withinR_nat {i n : Nat} (h : i < n) (κ : Nat → Option α) : withinR (i : Int) n κ = κ i := by
  unfold withinR
  rw [mustR_dec (by omega), mustR_dec (by omega)]; rfl
@[simp] theorem notB_true : notB true = false := rfl
@[simp] theorem notB_false : notB false = true := rfl
theorem w64_id {n : Int} (h0 : -9223372036854775808 ≤ n) (h1 : n < 9223372036854775808) : w64 n = n := by
  simp [w64, IntKind.wrap, IntKind.bits, IntKind.signed]; omega
end
end Go.Proofs.Ytdifekkamjoepaa.Vm
namespace Go.Proofs.Ytdifekkamjoepaa.Vm.Rp
open Go Go.Proofs.Ytdifekkamjoepaa.Vm
set_option linter.unusedVariables false

def isF (c : UInt8) : Bool := decide (128 ≤ c.toNat ∧ c.toNat ≤ 191)
def sg (s : List UInt8) : Nat := s.countP (fun c => !isF c)
def nl (s : List UInt8) : Nat := s.count 10
theorem fuel_gt (n : Nat) (h : n < 1000000000000000) : n < fuel := by unfold fuel; omega
def leafN (s : List UInt8) : N0 := .mk s.length (nl s) (sg s) 1 s none none
def nodeN (s : List UInt8) (h : Nat) (a b : N0) : N0 := .mk s.length (nl s) (sg s) h [] (some a) (some b)
inductive Tr : Nat → List UInt8 → N0 → Prop
  | leaf {s} : 0 < s.length → s.length ≤ 64 → Tr 1 s (leafN s)
  | node {ha hb sa sb a b} : Tr ha sa a → Tr hb sb b → ha ≤ hb + 1 → hb ≤ ha + 1 → Tr (1 + max ha hb) (sa ++ sb) (nodeN (sa ++ sb) (1 + max ha hb) a b)
def TrO (h : Nat) (s : List UInt8) : Option N0 → Prop
  | none => h = 0 ∧ s = []
  | some n => Tr h s n
section
variable {h ha hb : Nat} {s sa sb : List UInt8} {n a b : N0}
theorem Tr.pos (H : Tr h s n) : 1 ≤ h := by cases H <;> omega
theorem Tr.fields (H : Tr h s n) : (out0 n).1 = ((s.length : Int), ((nl s : Int), ((sg s : Int), (h : Int)))) := by cases H <;> rfl
theorem Tr.len (H : Tr h s n) : (out0 n).1.1 = (s.length : Int) := by rw [H.fields]
theorem Tr.ht (H : Tr h s n) : (out0 n).1.2.2.2 = (h : Int) := by rw [H.fields]
theorem Tr.txt (H : Tr h s n) : txt n = s := by
  induction H with
  | leaf h1 h2 => simp [leafN, Rp.txt, txtO]
  | node Ha Hb h1 h2 iha ihb => simp [nodeN, Rp.txt, txtO, iha, ihb]
@[simp] theorem leaf_l : (out0 (leafN s)).2.2.1 = none := rfl
@[simp] theorem leaf_r : (out0 (leafN s)).2.2.2 = none := rfl
@[simp] theorem leaf_t : (out0 (leafN s)).2.1 = s := rfl
@[simp] theorem node_l : (out0 (nodeN s h a b)).2.2.1 = some a := rfl
@[simp] theorem node_r : (out0 (nodeN s h a b)).2.2.2 = some b := rfl
@[simp] theorem node_t : (out0 (nodeN s h a b)).2.1 = [] := rfl

end
end Go.Proofs.Ytdifekkamjoepaa.Vm.Rp
namespace Go.Proofs.Ytdifekkamjoepaa.Vm.Rp
open Go Go.Proofs.Ytdifekkamjoepaa.Vm
set_option linter.unusedVariables false
section
variable {h ha hb : Nat} {s sa sb : List UInt8} {n a b : N0}

def Ro (s : List UInt8) (o : Option N0) : Prop := ∃ h, TrO h s o
end
end Go.Proofs.Ytdifekkamjoepaa.Vm.Rp
namespace Go.Proofs.Ytdifekkamjoepaa.Vm.Rp
open Go Go.Proofs.Ytdifekkamjoepaa.Vm
set_option linter.unusedVariables false

def bits (n : Nat) : Nat := if n = 0 then 0 else 1 + bits (n / 2)
termination_by n
decreasing_by omega
section
variable {s : List UInt8} {o : Option N0}
theorem Ro.txt (H : Ro s o) : txtO o = s := by
  obtain ⟨h, H⟩ := H
  cases o with
  | none => rw [H.2]; rfl
  | some n => exact Tr.txt (h := h) H
def cl (s : List UInt8) (i : Int) : Nat := (min (max i 0) s.length).toNat
theorem Ro.nil : Ro [] none := ⟨0, rfl, rfl⟩
end
end Go.Proofs.Ytdifekkamjoepaa.Vm.Rp
namespace Go.Proofs.Ytdifekkamjoepaa.Vm.Rp
open Go Go.Proofs.Ytdifekkamjoepaa.Vm
set_option linter.unusedVariables false

def ln : List UInt8 → Nat → Nat
  | [], _ => 0
  | c :: s, k => if c = 10 then (if k = 1 then 1 else 1 + ln s (k - 1)) else 1 + ln s k
section
variable {s : List UInt8} {o : Option N0}
end
end Go.Proofs.Ytdifekkamjoepaa.Vm.Rp
namespace Go.Proofs.Ytdifekkamjoepaa.Vm.Rp
open Go Go.Proofs.Ytdifekkamjoepaa.Vm
set_option linter.unusedVariables false

abbrev Op := Int × Int × Int × List UInt8
structure Inv (i : Nat) (x7 : List (Option N0)) (x8 : List (List UInt8)) : Prop where
  same : x7.length = x8.length
  pos : 1 ≤ x7.length
  le : x7.length ≤ i + 1
  ro : ∀ j, j < x7.length → Ro (x8.getD j []) (x7.getD j none) ∧ (x8.getD j []).length ≤ 4000
theorem Inv.next {i : Nat} {x7 : List (Option N0)} {x8 : List (List UInt8)} (I : Inv i x7 x8) : Inv (i + 1) x7 x8 := ⟨I.same, I.pos, by have := I.le; omega, I.ro⟩

section
variable {k i : Nat} {x1 : List Op} {x7 : List (Option N0)} {x8 : List (List UInt8)} {a1 : law02_RopePlays.T1} {e want : Int} {u : List UInt8} {m5 x : Option N0} {op : Op}
/-- What is to come answers true. -/
def Next (a1 : law02_RopePlays.T1) (x1 : List Op) (i : Nat) : Prop := ∀ x7 x8 m5, Inv (i + 1) x7 x8 → a1 x1 x7 x8 ((i + 1 : Nat) : Int) m5 = some (true, ())
end
end Go.Proofs.Ytdifekkamjoepaa.Vm.Rp
