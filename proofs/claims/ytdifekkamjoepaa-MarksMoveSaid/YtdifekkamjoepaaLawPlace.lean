/- The plain laws of places. -/
import Derived.Test.YtdifekkamjoepaaFnsPlace
import Derived.Test.YtdifekkamjoepaaLaw
namespace Go.Proofs.Ytdifekkamjoepaa.Vm.Rp
open Go Go.Proofs.Ytdifekkamjoepaa.Vm
set_option linter.unusedVariables false

def st (s : List UInt8) (k : Nat) : Nat := if k = 0 then 0 else ln s k
def en (s : List UInt8) (k : Nat) : Nat := if k + 1 ≤ nl s then ln s (k + 1) - 1 else s.length
end Go.Proofs.Ytdifekkamjoepaa.Vm.Rp
namespace Go.Proofs.Ytdifekkamjoepaa.Vm.Rp
open Go Go.Proofs.Ytdifekkamjoepaa.Vm
set_option linter.unusedVariables false
section
variable {s : List UInt8} {o : Option N0}

theorem rEdge_eq (t : List UInt8) (i : Nat) (h : i ≤ t.length) : s_ref01_Edge (t, ((i : Int), ())) = some (decide (i = t.length ∨ isF (t.getD i 0) = false), ()) := by
  show ref01_Edge.t0 (ref01_Edge.p1 fuel) t i = _
  simp only [ref01_Edge.t0, iteB_dec]
  rw [if_neg (by omega), decide_eq_false (by omega)]
  show ref01_Edge.t2 t i = _
  simp only [ref01_Edge.t2, iteB_dec]
  by_cases c : i = t.length
  · rw [if_pos (by omega), decide_eq_true (.inl c)]
  · rw [if_neg (by omega), withinR_nat (by omega)]
    show bindR (s_ref01_Follower (((t.getD i 0).toNat : Int), ())) _ = _
    rw [rfollower_eq, bindR_val]
    cases hF : isF (t.getD i 0) with
    | true => rw [decide_eq_false (by simp [c])]; rfl
    | false => rw [decide_eq_true (.inr rfl)]; rfl
theorem rEdge_bad (t : List UInt8) (i : Int) (h : i < 0 ∨ t.length < i) : s_ref01_Edge (t, (i, ())) = some (false, ()) := by
  show ref01_Edge.t0 (ref01_Edge.p1 fuel) t i = _
  simp only [ref01_Edge.t0, iteB_dec]
  by_cases c : i < 0
  · rw [if_pos c]; rfl
  · rw [if_neg c, decide_eq_true (by omega)]; rfl
end
end Go.Proofs.Ytdifekkamjoepaa.Vm.Rp
