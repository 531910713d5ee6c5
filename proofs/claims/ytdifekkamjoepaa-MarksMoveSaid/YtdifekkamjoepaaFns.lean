/- What the functions of the layer compute, as plain functions; that they do. -/
import Derived.Test.YtdifekkamjoepaaLib
namespace Go.Proofs.Ytdifekkamjoepaa.Vm.Rp
open Go Go.Proofs.Ytdifekkamjoepaa.Vm Go.Proofs
set_option linter.unusedVariables false
set_option maxRecDepth 100000
noncomputable section
namespace ref01_Follower
noncomputable def E : Env cx := { tys := tys, fs := fsOf [] }
abbrev R := Option ((Bool) × (Unit))
abbrev C := Exit → ST cx → R
noncomputable def b : Code := bodyC Try.f103
noncomputable def h : Hint := { vs := [0, 2], nil := [], cuts := [], ret := ([2], []), ords := [] }
noncomputable def K0 : C := fin (S := cx) E Try.f103.results.toList .bool .ro [] []
noncomputable def c0 : Code := subC b [1]
noncomputable def K1 (k : Nat) : C := outD h c0 K0
noncomputable def K2 (k : Nat) : C := seqC E h k c0 K0
noncomputable def c1 : Code := subC b [1, 1]
noncomputable def K3 (k : Nat) : C := outD h c1 (K1 k)
noncomputable def K4 (k : Nat) : C := seqC E h k c1 (K1 k)
abbrev T0 := Int → R
noncomputable def u0 (k : Nat) : T0 := fun (x0 : Int) => runOf (S := cx) E h k Try.f103 [.val (.int .u8)] .bool .ro (x0, ())
def t0 : T0 := fun (x0 : Int) => 
  (iteB (decide ((128 : Int) ≤ x0)) (some ((decide (x0 ≤ (191 : Int))), ())) (some (false, ())))
theorem e0 (k : Nat) : u0 k = t0 := by kernel_rfl
def p0 (k : Nat) : T0 := t0
theorem o0 (k : Nat) : u0 k = p0 k := (Eq.trans (b := t0) (e0 k) (by kernel_rfl))
end ref01_Follower
def s_ref01_Follower (a : (Int) × (Unit)) : Option ((Bool) × (Unit)) := ref01_Follower.p0 (fuel) a.1
noncomputable def F_ref01_Follower : FSpec cx.toNm := { ps := [.val (.int .u8)], nres := 1, rt := .bool, rm := .ro, f := s_ref01_Follower }
theorem w_ref01_Follower (a : (Int) × (Unit)) : runOf (S := cx) ref01_Follower.E ref01_Follower.h (fuel) Try.f103 F_ref01_Follower.ps F_ref01_Follower.rt F_ref01_Follower.rm a = F_ref01_Follower.f a := Eq.trans (b := ref01_Follower.u0 (fuel) a.1) (by kernel_rfl) (Eq.trans (b := ref01_Follower.p0 (fuel) a.1) (congrFun (ref01_Follower.o0 (fuel)) a.1) (by kernel_rfl))
theorem ok_ref01_Follower : FnOk Try.prog F_ref01_Follower 103 := fn_of (hn := ref01_Follower.h) (E := ref01_Follower.E) cxOk (tysT _) fs_nil follows Try.func103 (by kernel_rfl) (fun a r h => ⟨fuel, Eq.trans (w_ref01_Follower a) h⟩)
end
end Go.Proofs.Ytdifekkamjoepaa.Vm.Rp
