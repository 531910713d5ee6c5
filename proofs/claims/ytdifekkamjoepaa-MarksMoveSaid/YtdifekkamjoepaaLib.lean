/- The parts of a rope as data; what counts bytes and what writes a text. -/
import Derived.Test.YtdifekkamjoepaaVm2
import Derived.Test.YtdifekkamjoepaaChecked
import Derived.KernelRfl
import Derived.Lib.CountLaws
import Derived.Shelf.Strings.Builder1
import Derived.Shelf.Strings.Count
import Derived.Test.YtdifekkamjoepaaProg
namespace Go.Proofs.Ytdifekkamjoepaa.Vm.Rp
open Go Go.Proofs.Ytdifekkamjoepaa.Vm Go.Proofs
set_option linter.unusedVariables false
set_option maxRecDepth 100000
noncomputable section
inductive N0 where
  | mk (a0 : Int) (a1 : Int) (a2 : Int) (a3 : Int) (a4 : List UInt8) (a5 : Option N0) (a6 : Option N0) : N0
def pk0 (b : ((Int) × ((Int) × ((Int) × (Int)))) × ((List UInt8) × ((Option N0) × (Option N0)))) : N0 := .mk b.1.1 b.1.2.1 b.1.2.2.1 b.1.2.2.2 b.2.1 b.2.2.1 b.2.2.2
def out0 : N0 → ((Int) × ((Int) × ((Int) × (Int)))) × ((List UInt8) × ((Option N0) × (Option N0)))
  | .mk a0 a1 a2 a3 a4 a5 a6 => ((a0, (a1, (a2, a3))), (a4, (a5, a6)))
inductive N1 where
  | mk (a0 : Int) (a1 : List (List UInt8)) (a2 : List (Int)) (a3 : List ((Int) × (Int))) : N1
def pk1 (b : (Int) × ((List (List UInt8)) × ((List (Int)) × (List ((Int) × (Int)))))) : N1 := .mk b.1 b.2.1 b.2.2.1 b.2.2.2
def out1 : N1 → (Int) × ((List (List UInt8)) × ((List (Int)) × (List ((Int) × (Int)))))
  | .mk a0 a1 a2 a3 => (a0, (a1, (a2, a3)))
inductive N2 where
  | mk (a0 : Int) (a1 : Int) (a2 : List ((Int) × ((Int) × (List UInt8)))) : N2
def pk2 (b : ((Int) × (Int)) × (List ((Int) × ((Int) × (List UInt8))))) : N2 := .mk b.1.1 b.1.2 b.2
def out2 : N2 → ((Int) × (Int)) × (List ((Int) × ((Int) × (List UInt8))))
  | .mk a0 a1 a2 => ((a0, a1), a2)
inductive N3 where
  | mk (a0 : List UInt8) : N3
def pk3 (b : List UInt8) : N3 := .mk b
def out3 : N3 → List UInt8
  | .mk a0 => a0
noncomputable def cx : Cx := { N := fun n => match n with | 0 => N0 | 1 => N1 | 2 => N2 | 3 => N3 | _ + 4 => Unit, body := fun n => match n with | 0 => (.agg (.pair (.agg (.pair (.int .i64) (.pair (.int .i64) (.pair (.int .i64) (.int .i64))))) (.pair .str (.pair (.ptr 0) (.ptr 0))))) | 1 => (.agg (.agg (.pair (.int .i64) (.pair (.slice 9 .str) (.pair (.slice 3 (.int .i64)) (.slice 33 (.agg (.pair (.int .i64) (.int .i64))))))))) | 2 => (.agg (.pair (.agg (.pair (.int .i64) (.int .i64))) (.slice 41 (.agg (.pair (.int .i64) (.pair (.int .i64) .str)))))) | 3 => (.agg .str) | _ + 4 => .unit, nsz := fun n => match n with | 0 => 7 | 1 => 4 | 2 => 3 | 3 => 1 | _ + 4 => 0, out := fun n => match n with | 0 => out0 | 1 => out1 | 2 => out2 | 3 => out3 | _ + 4 => fun _ => (), pk := fun n => match n with | 0 => pk0 | 1 => pk1 | 2 => pk2 | 3 => pk3 | _ + 4 => fun _ => (), dflt := fun n => match n with | 0 => pk0 (((0 : Int), ((0 : Int), ((0 : Int), (0 : Int)))), (([] : List UInt8), (none, none))) | 1 => pk1 ((0 : Int), (([] : List (List UInt8)), (([] : List (Int)), ([] : List ((Int) × (Int)))))) | 2 => pk2 (((0 : Int), (0 : Int)), ([] : List ((Int) × ((Int) × (List UInt8))))) | 3 => pk3 ([] : List UInt8) | _ + 4 => () }
theorem cxOk : cx.Ok := ⟨fun n => match n with | 0 => rfl | 1 => rfl | 2 => rfl | 3 => rfl | _ + 4 => rfl, fun n x => match n, x with | 0, _ => rfl | 1, _ => rfl | 2, _ => rfl | 3, _ => rfl | _ + 4, _ => rfl⟩
noncomputable def tys : List (Nat × Ty) := [(3, (.int .i64)), (4, .bool), (5, (.int .u8)), (9, .str), (22, (.slice 41 (.agg (.pair (.int .i64) (.pair (.int .i64) .str))))), (26, (.slice 9 .str)), (27, (.slice 3 (.int .i64))), (28, (.slice 33 (.agg (.pair (.int .i64) (.int .i64))))), (30, (.agg (.pair (.int .i64) (.pair (.slice 9 .str) (.pair (.slice 3 (.int .i64)) (.slice 33 (.agg (.pair (.int .i64) (.int .i64))))))))), (33, (.agg (.pair (.int .i64) (.int .i64)))), (41, (.agg (.pair (.int .i64) (.pair (.int .i64) .str)))), (44, (.int .i64)), (55, (.int .u16)), (56, (.ptr 0)), (58, (.agg (.ptr 0))), (59, (.slice 5 (.int .u8))), (66, (.slice 70 (.agg (.pair (.int .u8) (.pair (.int .i64) (.pair (.int .i64) .str)))))), (68, (.slice 58 (.agg (.ptr 0)))), (70, (.agg (.pair (.int .u8) (.pair (.int .i64) (.pair (.int .i64) .str))))), (76, (.int .u64)), (84, (.agg (.pair (.int .i64) (.int .i64)))), (118, (.ptr 1)), (121, (.agg (.agg (.pair (.int .i64) (.pair (.slice 9 .str) (.pair (.slice 3 (.int .i64)) (.slice 33 (.agg (.pair (.int .i64) (.int .i64)))))))))), (132, (.agg (.pair (.int .i64) (.pair (.int .i64) (.pair (.int .i64) (.int .i64)))))), (149, (.agg (.pair (.int .i64) (.int .i64)))), (151, (.agg (.pair (.agg (.pair (.int .i64) (.int .i64))) (.int .i64)))), (157, (.ptr 2)), (159, (.agg (.pair (.int .i64) (.int .i64)))), (161, (.agg (.pair (.agg (.pair (.int .i64) (.int .i64))) (.slice 41 (.agg (.pair (.int .i64) (.pair (.int .i64) .str))))))), (174, (.agg (.pair (.agg (.pair (.int .i64) (.pair (.int .i64) (.pair (.int .i64) (.int .i64))))) (.pair .str (.pair (.ptr 0) (.ptr 0)))))), (181, (.ptr 3)), (183, (.agg .str)), (191, (.agg (.pair (.int .i64) (.pair (.int .i64) (.int .i64)))))]
theorem tysT (l : List (Nat × FSpec cx.toNm)) : TysOk (S := cx) Try.prog { tys := tys, fs := fsOf l } := tysOk (by kernel_rfl)
theorem follows : Try.prog.follows .mixedOrders = true := by kernel_rfl
mutual
def txt : N0 → List UInt8
  | .mk _ _ _ _ t l r => t ++ (txtO l ++ txtO r)
def txtO : Option N0 → List UInt8
  | none => []
  | some x => txt x
end
def vInsert {α : Type} (l : List α) (a : (Int) × (Unit)) (l2 : List α) : Option (List α) := match l2 with
  | [v] => match decide (0 ≤ a.1 ∧ a.1 ≤ (l.length : Int) ∧ l.length ≤ 1000000) with
    | true => some (l.take a.1.toNat ++ v :: l.drop a.1.toNat)
    | false => none
  | _ => none
theorem is_InsertS : ∃ f : List (List UInt8) → ((Int) × (Unit)) → List (List UInt8) → Option (List (List UInt8)), f = vInsert := ⟨_, rfl⟩
def s_InsertS : List (List UInt8) → ((Int) × (Unit)) → List (List UInt8) → Option (List (List UInt8)) := Classical.choose is_InsertS
theorem InsertS_is : s_InsertS = vInsert := Classical.choose_spec is_InsertS
noncomputable def O_InsertS : OSpec cx.toNm := { e := 9, u := .str, ps := [.val (.int .i64)], two := true, f := s_InsertS }
noncomputable def F_InsertS : FSpec cx.toNm := { ps := [], nres := 0, rt := .unit, rm := .ro, f := fun _ => none, o := some O_InsertS }
theorem is_InsertI : ∃ f : List (Int) → ((Int) × (Unit)) → List (Int) → Option (List (Int)), f = vInsert := ⟨_, rfl⟩
def s_InsertI : List (Int) → ((Int) × (Unit)) → List (Int) → Option (List (Int)) := Classical.choose is_InsertI
theorem InsertI_is : s_InsertI = vInsert := Classical.choose_spec is_InsertI
noncomputable def O_InsertI : OSpec cx.toNm := { e := 3, u := (.int .i64), ps := [.val (.int .i64)], two := true, f := s_InsertI }
noncomputable def F_InsertI : FSpec cx.toNm := { ps := [], nres := 0, rt := .unit, rm := .ro, f := fun _ => none, o := some O_InsertI }
end
end Go.Proofs.Ytdifekkamjoepaa.Vm.Rp
namespace Go.Proofs
open Go.Shelf
end Go.Proofs
namespace Go.Proofs
open Go.RowKit
set_option linter.unusedVariables false

end Go.Proofs
namespace Go.Proofs.Ytdifekkamjoepaa.Vm.Rp
open Go Go.Proofs.Ytdifekkamjoepaa.Vm Go.Proofs Go.RowKit
set_option linter.unusedVariables false
mutual
def dep : N0 → Nat
  | .mk _ _ _ _ _ l r => 1 + max (depO l) (depO r)
def depO : Option N0 → Nat
  | none => 0
  | some x => dep x
end

theorem enters_at {f : Nat} {fn : Func} {c : Code} (hf : Try.prog.funcs[f]? = some fn) (hb : fn.body = some c) (hname : (fn.name == "runtime.NumGoroutine") = false) (vs : Array Value) (w : World) : (callFunc f vs).run Try.prog w = .ok (.enter f vs) w := by
  simp only [callFunc, Sem.run_bind, run_program, Result.andThen_ok, hf, hname, Bool.false_eq_true, if_false, hb, Option.isNone]
  rfl

end Go.Proofs.Ytdifekkamjoepaa.Vm.Rp
