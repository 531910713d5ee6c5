/- What the functions of marks compute, as plain functions; that they do. -/
import Derived.Test.YtdifekkamjoepaaFnsEdit2
import Derived.Test.YtdifekkamjoepaaIns
namespace Go.Proofs.Ytdifekkamjoepaa.Vm.Rp
open Go Go.Proofs.Ytdifekkamjoepaa.Vm Go.Proofs
set_option linter.unusedVariables false
set_option maxRecDepth 100000
noncomputable section
namespace slices_Clone
noncomputable def E : Env cx := { tys := tys, fs := fsOf [] }
abbrev R := Option ((List (List UInt8)) × (Unit))
abbrev C := Exit → ST cx → R
noncomputable def b : Code := bodyC Try.f112
noncomputable def h : Hint := { vs := [0, 2], nil := [(5, (.own .ro)), (2, (.own .ro))], cuts := [], ret := ([2], []), ords := [] }
noncomputable def K0 : C := fin (S := cx) E Try.f112.results.toList (.slice 9 .str) (.own .ro) [] []
noncomputable def c0 : Code := subC b [1]
noncomputable def K1 (k : Nat) : C := outD h c0 K0
noncomputable def K2 (k : Nat) : C := seqC E h k c0 K0
noncomputable def c1 : Code := subC b [1, 1]
noncomputable def K3 (k : Nat) : C := outD h c1 (K1 k)
noncomputable def K4 (k : Nat) : C := seqC E h k c1 (K1 k)
noncomputable def c2 : Code := subC b [1, 0, 1]
noncomputable def K5 (k : Nat) : C := outD h c2 (K4 k)
noncomputable def K6 (k : Nat) : C := seqC E h k c2 (K4 k)
noncomputable def c3 : Code := subC b [1, 0, 1, 0, 1]
noncomputable def K7 (k : Nat) : C := outD h c3 (K5 k)
noncomputable def K8 (k : Nat) : C := seqC E h k c3 (K5 k)
noncomputable def c4 : Code := subC b [1, 1, 1]
noncomputable def K9 (k : Nat) : C := outD h c4 (K3 k)
noncomputable def K10 (k : Nat) : C := seqC E h k c4 (K3 k)
abbrev T0 := (List (List UInt8)) → R
noncomputable def u0 (k : Nat) : T0 := fun (x0 : List (List UInt8)) => runOf (S := cx) E h k Try.f112 [.val (.slice 9 .str)] (.slice 9 .str) (.own .ro) (x0, ())
def t0 : T0 := fun (x0 : List (List UInt8)) => 
  (nilR (List.isEmpty x0) (some (([] : List (List UInt8)), ())) (mustR (room ([] : List (List UInt8)) x0) (some ((([] : List (List UInt8)) ++ x0), ()))))
theorem e0 (k : Nat) : u0 k = t0 := by kernel_rfl
def p0 (k : Nat) : T0 := t0
theorem o0 (k : Nat) : u0 k = p0 k := (Eq.trans (b := t0) (e0 k) (by kernel_rfl))
end slices_Clone
def s_slices_Clone (a : (List (List UInt8)) × (Unit)) : Option ((List (List UInt8)) × (Unit)) := slices_Clone.p0 (fuel) a.1
noncomputable def F_slices_Clone : FSpec cx.toNm := { ps := [.val (.slice 9 .str)], nres := 1, rt := (.slice 9 .str), rm := (.own .ro), f := s_slices_Clone }
theorem w_slices_Clone (a : (List (List UInt8)) × (Unit)) : runOf (S := cx) slices_Clone.E slices_Clone.h (fuel) Try.f112 F_slices_Clone.ps F_slices_Clone.rt F_slices_Clone.rm a = F_slices_Clone.f a := Eq.trans (b := slices_Clone.u0 (fuel) a.1) (by kernel_rfl) (Eq.trans (b := slices_Clone.p0 (fuel) a.1) (congrFun (slices_Clone.o0 (fuel)) a.1) (by kernel_rfl))
theorem ok_slices_Clone : FnOk Try.prog F_slices_Clone 112 := fn_of (hn := slices_Clone.h) (E := slices_Clone.E) cxOk (tysT _) fs_nil follows Try.func112 (by kernel_rfl) (fun a r h => ⟨fuel, Eq.trans (w_slices_Clone a) h⟩)
namespace slices_Clonex
noncomputable def E : Env cx := { tys := tys, fs := fsOf [] }
abbrev R := Option ((List (Int)) × (Unit))
abbrev C := Exit → ST cx → R
noncomputable def b : Code := bodyC Try.f113
noncomputable def h : Hint := { vs := [0, 2], nil := [(5, (.own .ro)), (2, (.own .ro))], cuts := [], ret := ([2], []), ords := [] }
noncomputable def K0 : C := fin (S := cx) E Try.f113.results.toList (.slice 3 (.int .i64)) (.own .ro) [] []
noncomputable def c0 : Code := subC b [1]
noncomputable def K1 (k : Nat) : C := outD h c0 K0
noncomputable def K2 (k : Nat) : C := seqC E h k c0 K0
noncomputable def c1 : Code := subC b [1, 1]
noncomputable def K3 (k : Nat) : C := outD h c1 (K1 k)
noncomputable def K4 (k : Nat) : C := seqC E h k c1 (K1 k)
noncomputable def c2 : Code := subC b [1, 0, 1]
noncomputable def K5 (k : Nat) : C := outD h c2 (K4 k)
noncomputable def K6 (k : Nat) : C := seqC E h k c2 (K4 k)
noncomputable def c3 : Code := subC b [1, 0, 1, 0, 1]
noncomputable def K7 (k : Nat) : C := outD h c3 (K5 k)
noncomputable def K8 (k : Nat) : C := seqC E h k c3 (K5 k)
noncomputable def c4 : Code := subC b [1, 1, 1]
noncomputable def K9 (k : Nat) : C := outD h c4 (K3 k)
noncomputable def K10 (k : Nat) : C := seqC E h k c4 (K3 k)
abbrev T0 := (List (Int)) → R
noncomputable def u0 (k : Nat) : T0 := fun (x0 : List (Int)) => runOf (S := cx) E h k Try.f113 [.val (.slice 3 (.int .i64))] (.slice 3 (.int .i64)) (.own .ro) (x0, ())
def t0 : T0 := fun (x0 : List (Int)) => 
  (nilR (List.isEmpty x0) (some (([] : List (Int)), ())) (mustR (room ([] : List (Int)) x0) (some ((([] : List (Int)) ++ x0), ()))))
theorem e0 (k : Nat) : u0 k = t0 := by kernel_rfl
def p0 (k : Nat) : T0 := t0
theorem o0 (k : Nat) : u0 k = p0 k := (Eq.trans (b := t0) (e0 k) (by kernel_rfl))
end slices_Clonex
def s_slices_Clonex (a : (List (Int)) × (Unit)) : Option ((List (Int)) × (Unit)) := slices_Clonex.p0 (fuel) a.1
noncomputable def F_slices_Clonex : FSpec cx.toNm := { ps := [.val (.slice 3 (.int .i64))], nres := 1, rt := (.slice 3 (.int .i64)), rm := (.own .ro), f := s_slices_Clonex }
theorem w_slices_Clonex (a : (List (Int)) × (Unit)) : runOf (S := cx) slices_Clonex.E slices_Clonex.h (fuel) Try.f113 F_slices_Clonex.ps F_slices_Clonex.rt F_slices_Clonex.rm a = F_slices_Clonex.f a := Eq.trans (b := slices_Clonex.u0 (fuel) a.1) (by kernel_rfl) (Eq.trans (b := slices_Clonex.p0 (fuel) a.1) (congrFun (slices_Clonex.o0 (fuel)) a.1) (by kernel_rfl))
theorem ok_slices_Clonex : FnOk Try.prog F_slices_Clonex 113 := fn_of (hn := slices_Clonex.h) (E := slices_Clonex.E) cxOk (tysT _) fs_nil follows Try.func113 (by kernel_rfl) (fun a r h => ⟨fuel, Eq.trans (w_slices_Clonex a) h⟩)
namespace slices_Clonexx
noncomputable def E : Env cx := { tys := tys, fs := fsOf [] }
abbrev R := Option ((List ((Int) × (Int))) × (Unit))
abbrev C := Exit → ST cx → R
noncomputable def b : Code := bodyC Try.f114
noncomputable def h : Hint := { vs := [0, 2], nil := [(5, (.own .ro)), (2, (.own .ro))], cuts := [], ret := ([2], []), ords := [] }
noncomputable def K0 : C := fin (S := cx) E Try.f114.results.toList (.slice 33 (.agg (.pair (.int .i64) (.int .i64)))) (.own .ro) [] []
noncomputable def c0 : Code := subC b [1]
noncomputable def K1 (k : Nat) : C := outD h c0 K0
noncomputable def K2 (k : Nat) : C := seqC E h k c0 K0
noncomputable def c1 : Code := subC b [1, 1]
noncomputable def K3 (k : Nat) : C := outD h c1 (K1 k)
noncomputable def K4 (k : Nat) : C := seqC E h k c1 (K1 k)
noncomputable def c2 : Code := subC b [1, 0, 1]
noncomputable def K5 (k : Nat) : C := outD h c2 (K4 k)
noncomputable def K6 (k : Nat) : C := seqC E h k c2 (K4 k)
noncomputable def c3 : Code := subC b [1, 0, 1, 0, 1]
noncomputable def K7 (k : Nat) : C := outD h c3 (K5 k)
noncomputable def K8 (k : Nat) : C := seqC E h k c3 (K5 k)
noncomputable def c4 : Code := subC b [1, 1, 1]
noncomputable def K9 (k : Nat) : C := outD h c4 (K3 k)
noncomputable def K10 (k : Nat) : C := seqC E h k c4 (K3 k)
abbrev T0 := (List ((Int) × (Int))) → R
noncomputable def u0 (k : Nat) : T0 := fun (x0 : List ((Int) × (Int))) => runOf (S := cx) E h k Try.f114 [.val (.slice 33 (.agg (.pair (.int .i64) (.int .i64))))] (.slice 33 (.agg (.pair (.int .i64) (.int .i64)))) (.own .ro) (x0, ())
def t0 : T0 := fun (x0 : List ((Int) × (Int))) => 
  (nilR (List.isEmpty x0) (some (([] : List ((Int) × (Int))), ())) (mustR (room ([] : List ((Int) × (Int))) x0) (some ((([] : List ((Int) × (Int))) ++ x0), ()))))
theorem e0 (k : Nat) : u0 k = t0 := by kernel_rfl
def p0 (k : Nat) : T0 := t0
theorem o0 (k : Nat) : u0 k = p0 k := (Eq.trans (b := t0) (e0 k) (by kernel_rfl))
end slices_Clonexx
def s_slices_Clonexx (a : (List ((Int) × (Int))) × (Unit)) : Option ((List ((Int) × (Int))) × (Unit)) := slices_Clonexx.p0 (fuel) a.1
noncomputable def F_slices_Clonexx : FSpec cx.toNm := { ps := [.val (.slice 33 (.agg (.pair (.int .i64) (.int .i64))))], nres := 1, rt := (.slice 33 (.agg (.pair (.int .i64) (.int .i64)))), rm := (.own .ro), f := s_slices_Clonexx }
theorem w_slices_Clonexx (a : (List ((Int) × (Int))) × (Unit)) : runOf (S := cx) slices_Clonexx.E slices_Clonexx.h (fuel) Try.f114 F_slices_Clonexx.ps F_slices_Clonexx.rt F_slices_Clonexx.rm a = F_slices_Clonexx.f a := Eq.trans (b := slices_Clonexx.u0 (fuel) a.1) (by kernel_rfl) (Eq.trans (b := slices_Clonexx.p0 (fuel) a.1) (congrFun (slices_Clonexx.o0 (fuel)) a.1) (by kernel_rfl))
theorem ok_slices_Clonexx : FnOk Try.prog F_slices_Clonexx 114 := fn_of (hn := slices_Clonexx.h) (E := slices_Clonexx.E) cxOk (tysT _) fs_nil follows Try.func114 (by kernel_rfl) (fun a r h => ⟨fuel, Eq.trans (w_slices_Clonexx a) h⟩)
namespace marks_of
noncomputable def E : Env cx := { tys := tys, fs := fsOf [(112, F_slices_Clone), (113, F_slices_Clonex), (114, F_slices_Clonexx)] }
abbrev R := Option (((Int) × ((List (List UInt8)) × ((List (Int)) × (List ((Int) × (Int)))))) × (Unit))
abbrev C := Exit → ST cx → R
noncomputable def b : Code := bodyC Try.f75
noncomputable def h : Hint := { vs := [0, 1, 2], nil := [], cuts := [], ret := ([2], [1, 16]), ords := [(1, [0, 1, 2, 3, 5, 6, 8, 9, 4, 7, 10, 11, 12, 13, 14])] }
noncomputable def K0 : C := fin (S := cx) E Try.f75.results.toList (.box (.agg (.agg (.pair (.int .i64) (.pair (.slice 9 .str) (.pair (.slice 3 (.int .i64)) (.slice 33 (.agg (.pair (.int .i64) (.int .i64)))))))))) (.own (.pr .ro (.pr (.own .ro) (.pr (.own .ro) (.own .ro))))) [] []
noncomputable def c0 : Code := subC b [1]
noncomputable def K1 (k : Nat) : C := outD h c0 K0
noncomputable def K2 (k : Nat) : C := seqC E h k c0 K0
noncomputable def c1 : Code := subC b [1, 1]
noncomputable def K3 (k : Nat) : C := outD h c1 (K1 k)
noncomputable def K4 (k : Nat) : C := seqC E h k c1 (K1 k)
abbrev T0 := ((Int) × ((List (List UInt8)) × ((List (Int)) × (List ((Int) × (Int)))))) → R
noncomputable def u0 (k : Nat) : T0 := fun (x0 : (Int) × ((List (List UInt8)) × ((List (Int)) × (List ((Int) × (Int)))))) => runOf (S := cx) E h k Try.f75 [.val (.agg (.pair (.int .i64) (.pair (.slice 9 .str) (.pair (.slice 3 (.int .i64)) (.slice 33 (.agg (.pair (.int .i64) (.int .i64))))))))] (.box (.agg (.agg (.pair (.int .i64) (.pair (.slice 9 .str) (.pair (.slice 3 (.int .i64)) (.slice 33 (.agg (.pair (.int .i64) (.int .i64)))))))))) (.own (.pr .ro (.pr (.own .ro) (.pr (.own .ro) (.own .ro))))) (x0, ())
def t0 : T0 := fun (x0 : (Int) × ((List (List UInt8)) × ((List (Int)) × (List ((Int) × (Int)))))) => 
  (bindR (s_slices_Clone (x0.2.1, ())) fun r1 => (bindR (s_slices_Clonex (x0.2.2.1, ())) fun r2 => (bindR (s_slices_Clonexx (x0.2.2.2, ())) fun r3 => (some ((x0.1, (r1.1, (r2.1, r3.1))), ())))))
theorem e0 (k : Nat) : u0 k = t0 := by kernel_rfl
def p0 (k : Nat) : T0 := t0
theorem o0 (k : Nat) : u0 k = p0 k := (Eq.trans (b := t0) (e0 k) (by kernel_rfl))
end marks_of
def s_marks_of (a : ((Int) × ((List (List UInt8)) × ((List (Int)) × (List ((Int) × (Int)))))) × (Unit)) : Option (((Int) × ((List (List UInt8)) × ((List (Int)) × (List ((Int) × (Int)))))) × (Unit)) := marks_of.p0 (fuel) a.1
noncomputable def F_marks_of : FSpec cx.toNm := { ps := [.val (.agg (.pair (.int .i64) (.pair (.slice 9 .str) (.pair (.slice 3 (.int .i64)) (.slice 33 (.agg (.pair (.int .i64) (.int .i64))))))))], nres := 1, rt := (.box (.agg (.agg (.pair (.int .i64) (.pair (.slice 9 .str) (.pair (.slice 3 (.int .i64)) (.slice 33 (.agg (.pair (.int .i64) (.int .i64)))))))))), rm := (.own (.pr .ro (.pr (.own .ro) (.pr (.own .ro) (.own .ro))))), f := s_marks_of }
theorem w_marks_of (a : ((Int) × ((List (List UInt8)) × ((List (Int)) × (List ((Int) × (Int)))))) × (Unit)) : runOf (S := cx) marks_of.E marks_of.h (fuel) Try.f75 F_marks_of.ps F_marks_of.rt F_marks_of.rm a = F_marks_of.f a := Eq.trans (b := marks_of.u0 (fuel) a.1) (by kernel_rfl) (Eq.trans (b := marks_of.p0 (fuel) a.1) (congrFun (marks_of.o0 (fuel)) a.1) (by kernel_rfl))
theorem ok_marks_of : FnOk Try.prog F_marks_of 75 := fn_of (hn := marks_of.h) (E := marks_of.E) cxOk (tysT _) (fs_cons ok_slices_Clone (fs_cons ok_slices_Clonex (fs_cons ok_slices_Clonexx fs_nil))) follows Try.func75 (by kernel_rfl) (fun a r h => ⟨fuel, Eq.trans (w_marks_of a) h⟩)
namespace marks_Move
noncomputable def E : Env cx := { tys := tys, fs := fsOf [(68, F_edit_Move), (75, F_marks_of)] }
abbrev R := Option (((Int) × ((List (List UInt8)) × ((List (Int)) × (List ((Int) × (Int)))))) × (Unit))
abbrev C := Exit → ST cx → R
noncomputable def b : Code := bodyC Try.f20
noncomputable def h : Hint := { vs := [0, 1, 2, 4, 5, 6, 7, 8, 9, 10, 28, 29, 30, 50, 51, 52], nil := [], cuts := [(4, ([1, 4, 5, 28, 29, 30], [4, 12]), ([1, 4, 5], [4, 12])), (8, ([1, 4, 5], [4, 12]), ([1, 4, 5], [4, 12])), (9, ([1, 4, 5, 50, 51, 52], [4, 12]), ([4, 5], [4, 12])), (14, ([4, 5], [4, 12]), ([4, 5], [4, 12]))], ret := ([4], [2, 4, 9, 12]), ords := [] }
noncomputable def K0 : C := fin (S := cx) E Try.f20.results.toList (.agg (.pair (.int .i64) (.pair (.slice 9 .str) (.pair (.slice 3 (.int .i64)) (.slice 33 (.agg (.pair (.int .i64) (.int .i64)))))))) .ro [] []
noncomputable def c0 : Code := subC b [1]
noncomputable def K1 (k : Nat) : C := outD h c0 K0
noncomputable def K2 (k : Nat) : C := seqC E h k c0 K0
noncomputable def c1 : Code := subC b [1, 1]
noncomputable def K3 (k : Nat) : C := outD h c1 (K1 k)
noncomputable def K4 (k : Nat) : C := seqC E h k c1 (K1 k)
noncomputable def c2 : Code := subC b [1, 1, 1]
noncomputable def K5 (k : Nat) : C := outD h c2 (K3 k)
noncomputable def K6 (k : Nat) : C := seqC E h k c2 (K3 k)
noncomputable def c3 : Code := subC b [1, 1, 1, 1]
noncomputable def K7 (k : Nat) : C := outD h c3 (K5 k)
noncomputable def K8 (k : Nat) : C := seqC E h k c3 (K5 k)
noncomputable def c4 : Code := subC b [1, 1, 1, 0, 1]
noncomputable def K9 (k : Nat) : C := outD h c4 (K8 k)
noncomputable def K10 (k : Nat) : C := seqC E h k c4 (K8 k)
noncomputable def K11 (k : Nat) : C := blockK 0 (K9 k)
noncomputable def c5 : Code := subC b [1, 1, 1, 0, 1, 0, 0]
noncomputable def K12 (k n1 : Nat) : C := loopD E h k c5 (K11 k) n1
noncomputable def c6 : Code := subC b [1, 1, 1, 0, 1, 0, 0, 1]
noncomputable def K13 (k n1 : Nat) : C := outD h c6 (K12 k n1)
noncomputable def K14 (k n1 : Nat) : C := seqC E h k c6 (K12 k n1)
noncomputable def c7 : Code := subC b [1, 1, 1, 0, 1, 0, 0, 1, 1]
noncomputable def K15 (k n1 : Nat) : C := outD h c7 (K13 k n1)
noncomputable def K16 (k n1 : Nat) : C := seqC E h k c7 (K13 k n1)
noncomputable def c8 : Code := subC b [1, 1, 1, 0, 1, 0, 0, 1, 1, 1]
noncomputable def K17 (k n1 : Nat) : C := outD h c8 (K15 k n1)
noncomputable def K18 (k n1 : Nat) : C := seqC E h k c8 (K15 k n1)
noncomputable def K19 (k n1 : Nat) : C := blockK 1 (K18 k n1)
noncomputable def c9 : Code := subC b [1, 1, 1, 0, 1, 0, 0, 1, 1, 0, 0, 1]
noncomputable def K20 (k n1 : Nat) : C := outD h c9 (K19 k n1)
noncomputable def K21 (k n1 : Nat) : C := seqC E h k c9 (K19 k n1)
noncomputable def c10 : Code := subC b [1, 1, 1, 1, 1]
noncomputable def K22 (k : Nat) : C := outD h c10 (K7 k)
noncomputable def K23 (k : Nat) : C := seqC E h k c10 (K7 k)
noncomputable def c11 : Code := subC b [1, 1, 1, 1, 0, 1]
noncomputable def K24 (k : Nat) : C := outD h c11 (K23 k)
noncomputable def K25 (k : Nat) : C := seqC E h k c11 (K23 k)
noncomputable def K26 (k : Nat) : C := blockK 2 (K24 k)
noncomputable def c12 : Code := subC b [1, 1, 1, 1, 0, 1, 0, 0]
noncomputable def K27 (k n3 : Nat) : C := loopD E h k c12 (K26 k) n3
noncomputable def c13 : Code := subC b [1, 1, 1, 1, 0, 1, 0, 0, 1]
noncomputable def K28 (k n3 : Nat) : C := outD h c13 (K27 k n3)
noncomputable def K29 (k n3 : Nat) : C := seqC E h k c13 (K27 k n3)
noncomputable def c14 : Code := subC b [1, 1, 1, 1, 0, 1, 0, 0, 1, 1]
noncomputable def K30 (k n3 : Nat) : C := outD h c14 (K28 k n3)
noncomputable def K31 (k n3 : Nat) : C := seqC E h k c14 (K28 k n3)
noncomputable def c15 : Code := subC b [1, 1, 1, 1, 0, 1, 0, 0, 1, 1, 1]
noncomputable def K32 (k n3 : Nat) : C := outD h c15 (K30 k n3)
noncomputable def K33 (k n3 : Nat) : C := seqC E h k c15 (K30 k n3)
noncomputable def K34 (k n3 : Nat) : C := blockK 3 (K33 k n3)
noncomputable def c16 : Code := subC b [1, 1, 1, 1, 0, 1, 0, 0, 1, 1, 0, 0, 1]
noncomputable def K35 (k n3 : Nat) : C := outD h c16 (K34 k n3)
noncomputable def K36 (k n3 : Nat) : C := seqC E h k c16 (K34 k n3)
noncomputable def c17 : Code := subC b [1, 1, 1, 1, 0, 1, 0, 0, 1, 1, 0, 0, 1, 1]
noncomputable def K37 (k n3 : Nat) : C := outD h c17 (K35 k n3)
noncomputable def K38 (k n3 : Nat) : C := seqC E h k c17 (K35 k n3)
noncomputable def c18 : Code := subC b [1, 1, 1, 1, 1, 1]
noncomputable def K39 (k : Nat) : C := outD h c18 (K22 k)
noncomputable def K40 (k : Nat) : C := seqC E h k c18 (K22 k)
abbrev T4 := ((Int) × ((List (List UInt8)) × ((List (Int)) × (List ((Int) × (Int)))))) → ((Int) × ((List (List UInt8)) × ((List (Int)) × (List ((Int) × (Int)))))) → R
abbrev T3 := (List ((Int) × ((Int) × (List UInt8)))) → Int → Int → ((Int) × ((List (List UInt8)) × ((List (Int)) × (List ((Int) × (Int)))))) → ((Int) × ((List (List UInt8)) × ((List (Int)) × (List ((Int) × (Int)))))) → R
abbrev T2 := (List ((Int) × ((Int) × (List UInt8)))) → ((Int) × ((List (List UInt8)) × ((List (Int)) × (List ((Int) × (Int)))))) → ((Int) × ((List (List UInt8)) × ((List (Int)) × (List ((Int) × (Int)))))) → R
abbrev T1 := (List ((Int) × ((Int) × (List UInt8)))) → Int → Int → ((Int) × ((List (List UInt8)) × ((List (Int)) × (List ((Int) × (Int)))))) → ((Int) × ((List (List UInt8)) × ((List (Int)) × (List ((Int) × (Int)))))) → R
abbrev T0 := ((Int) × ((List (List UInt8)) × ((List (Int)) × (List ((Int) × (Int)))))) → (List ((Int) × ((Int) × (List UInt8)))) → R
abbrev s4 : ((Int) × ((List (List UInt8)) × ((List (Int)) × (List ((Int) × (Int)))))) → ((Int) × ((List (List UInt8)) × ((List (Int)) × (List ((Int) × (Int)))))) → ST cx := fun (m4 m12 : (Int) × ((List (List UInt8)) × ((List (Int)) × (List ((Int) × (Int)))))) => ({ vars := [(4, .addr (.mem 4) []), (5, .addr (.mem 12) [])], scr := [], mems := [(4, ⟨(.agg (.pair (.int .i64) (.pair (.slice 9 .str) (.pair (.slice 3 (.int .i64)) (.slice 33 (.agg (.pair (.int .i64) (.int .i64)))))))), .ro, m4⟩), (12, ⟨(.agg (.agg (.pair (.int .i64) (.pair (.slice 9 .str) (.pair (.slice 3 (.int .i64)) (.slice 33 (.agg (.pair (.int .i64) (.int .i64))))))))), (.pr .ro (.pr (.own .ro) (.pr (.own .ro) (.own .ro)))), m12⟩)] } : ST cx)
noncomputable def u4 (k : Nat) : T4 := fun (m4 m12 : (Int) × ((List (List UInt8)) × ((List (Int)) × (List ((Int) × (Int)))))) => uK (run E h k c10) (s4 m4 m12) (K22 k)
noncomputable abbrev l4 (k : Nat) : T4 := fun (m4 m12 : (Int) × ((List (List UInt8)) × ((List (Int)) × (List ((Int) × (Int)))))) => cutK (run E h k c10) (s4 m4 m12) (K22 k)
abbrev s3 : (List ((Int) × ((Int) × (List UInt8)))) → Int → Int → ((Int) × ((List (List UInt8)) × ((List (Int)) × (List ((Int) × (Int)))))) → ((Int) × ((List (List UInt8)) × ((List (Int)) × (List ((Int) × (Int)))))) → ST cx := fun (x1 : List ((Int) × ((Int) × (List UInt8)))) (x51 x52 : Int) (m4 m12 : (Int) × ((List (List UInt8)) × ((List (Int)) × (List ((Int) × (Int)))))) => ({ vars := [(1, .v (.slice 41 (.agg (.pair (.int .i64) (.pair (.int .i64) .str)))) .ro x1), (4, .addr (.mem 4) []), (5, .addr (.mem 12) []), (50, .ref (.mem 12) [.inn, .inn, .snd, .snd, .snd]), (51, .v (.int .i64) .ro x51), (52, .v (.int .i64) .ro x52)], scr := [], mems := [(4, ⟨(.agg (.pair (.int .i64) (.pair (.slice 9 .str) (.pair (.slice 3 (.int .i64)) (.slice 33 (.agg (.pair (.int .i64) (.int .i64)))))))), .ro, m4⟩), (12, ⟨(.agg (.agg (.pair (.int .i64) (.pair (.slice 9 .str) (.pair (.slice 3 (.int .i64)) (.slice 33 (.agg (.pair (.int .i64) (.int .i64))))))))), (.pr .ro (.pr (.own .ro) (.pr (.own .ro) (.own .ro)))), m12⟩)] } : ST cx)
noncomputable def u3 (k n3 : Nat) : T3 := fun (x1 : List ((Int) × ((Int) × (List UInt8)))) (x51 x52 : Int) (m4 m12 : (Int) × ((List (List UInt8)) × ((List (Int)) × (List ((Int) × (Int)))))) => uK (loopL E h k c12 (K26 k) n3) (s3 x1 x51 x52 m4 m12) ()
noncomputable abbrev l3 (k n3 : Nat) : T3 := fun (x1 : List ((Int) × ((Int) × (List UInt8)))) (x51 x52 : Int) (m4 m12 : (Int) × ((List (List UInt8)) × ((List (Int)) × (List ((Int) × (Int)))))) => cutK (loopL E h k c12 (K26 k) n3) (s3 x1 x51 x52 m4 m12) ()
abbrev s2 : (List ((Int) × ((Int) × (List UInt8)))) → ((Int) × ((List (List UInt8)) × ((List (Int)) × (List ((Int) × (Int)))))) → ((Int) × ((List (List UInt8)) × ((List (Int)) × (List ((Int) × (Int)))))) → ST cx := fun (x1 : List ((Int) × ((Int) × (List UInt8)))) (m4 m12 : (Int) × ((List (List UInt8)) × ((List (Int)) × (List ((Int) × (Int)))))) => ({ vars := [(1, .v (.slice 41 (.agg (.pair (.int .i64) (.pair (.int .i64) .str)))) .ro x1), (4, .addr (.mem 4) []), (5, .addr (.mem 12) [])], scr := [], mems := [(4, ⟨(.agg (.pair (.int .i64) (.pair (.slice 9 .str) (.pair (.slice 3 (.int .i64)) (.slice 33 (.agg (.pair (.int .i64) (.int .i64)))))))), .ro, m4⟩), (12, ⟨(.agg (.agg (.pair (.int .i64) (.pair (.slice 9 .str) (.pair (.slice 3 (.int .i64)) (.slice 33 (.agg (.pair (.int .i64) (.int .i64))))))))), (.pr .ro (.pr (.own .ro) (.pr (.own .ro) (.own .ro)))), m12⟩)] } : ST cx)
noncomputable def u2 (k : Nat) : T2 := fun (x1 : List ((Int) × ((Int) × (List UInt8)))) (m4 m12 : (Int) × ((List (List UInt8)) × ((List (Int)) × (List ((Int) × (Int)))))) => uK (run E h k c3) (s2 x1 m4 m12) (K7 k)
noncomputable abbrev l2 (k : Nat) : T2 := fun (x1 : List ((Int) × ((Int) × (List UInt8)))) (m4 m12 : (Int) × ((List (List UInt8)) × ((List (Int)) × (List ((Int) × (Int)))))) => cutK (run E h k c3) (s2 x1 m4 m12) (K7 k)
abbrev s1 : (List ((Int) × ((Int) × (List UInt8)))) → Int → Int → ((Int) × ((List (List UInt8)) × ((List (Int)) × (List ((Int) × (Int)))))) → ((Int) × ((List (List UInt8)) × ((List (Int)) × (List ((Int) × (Int)))))) → ST cx := fun (x1 : List ((Int) × ((Int) × (List UInt8)))) (x29 x30 : Int) (m4 m12 : (Int) × ((List (List UInt8)) × ((List (Int)) × (List ((Int) × (Int)))))) => ({ vars := [(1, .v (.slice 41 (.agg (.pair (.int .i64) (.pair (.int .i64) .str)))) .ro x1), (4, .addr (.mem 4) []), (5, .addr (.mem 12) []), (28, .ref (.mem 12) [.inn, .inn, .snd, .snd, .fst]), (29, .v (.int .i64) .ro x29), (30, .v (.int .i64) .ro x30)], scr := [], mems := [(4, ⟨(.agg (.pair (.int .i64) (.pair (.slice 9 .str) (.pair (.slice 3 (.int .i64)) (.slice 33 (.agg (.pair (.int .i64) (.int .i64)))))))), .ro, m4⟩), (12, ⟨(.agg (.agg (.pair (.int .i64) (.pair (.slice 9 .str) (.pair (.slice 3 (.int .i64)) (.slice 33 (.agg (.pair (.int .i64) (.int .i64))))))))), (.pr .ro (.pr (.own .ro) (.pr (.own .ro) (.own .ro)))), m12⟩)] } : ST cx)
noncomputable def u1 (k n1 : Nat) : T1 := fun (x1 : List ((Int) × ((Int) × (List UInt8)))) (x29 x30 : Int) (m4 m12 : (Int) × ((List (List UInt8)) × ((List (Int)) × (List ((Int) × (Int)))))) => uK (loopL E h k c5 (K11 k) n1) (s1 x1 x29 x30 m4 m12) ()
noncomputable abbrev l1 (k n1 : Nat) : T1 := fun (x1 : List ((Int) × ((Int) × (List UInt8)))) (x29 x30 : Int) (m4 m12 : (Int) × ((List (List UInt8)) × ((List (Int)) × (List ((Int) × (Int)))))) => cutK (loopL E h k c5 (K11 k) n1) (s1 x1 x29 x30 m4 m12) ()
noncomputable def u0 (k : Nat) : T0 := fun (x0 : (Int) × ((List (List UInt8)) × ((List (Int)) × (List ((Int) × (Int)))))) (x1 : List ((Int) × ((Int) × (List UInt8)))) => runOf (S := cx) E h k Try.f20 [.val (.agg (.pair (.int .i64) (.pair (.slice 9 .str) (.pair (.slice 3 (.int .i64)) (.slice 33 (.agg (.pair (.int .i64) (.int .i64)))))))), .val (.slice 41 (.agg (.pair (.int .i64) (.pair (.int .i64) .str))))] (.agg (.pair (.int .i64) (.pair (.slice 9 .str) (.pair (.slice 3 (.int .i64)) (.slice 33 (.agg (.pair (.int .i64) (.int .i64)))))))) .ro (x0, x1, ())
def t4 : T4 := fun (m4 m12 : (Int) × ((List (List UInt8)) × ((List (Int)) × (List ((Int) × (Int)))))) => 
  (some (m12, ()))
theorem e4 (k : Nat) : u4 k = t4 := by kernel_rfl
theorem g4 (k : Nat) : l4 k = u4 k := funext fun _ => funext fun _ => cut_u _ _ _
def p4 (k : Nat) : T4 := t4
theorem o4 (k : Nat) : l4 k = p4 k := (Eq.trans (b := u4 k) (g4 k) (Eq.trans (b := t4) (e4 k) (by kernel_rfl)))
def t3 (f3 : T3) (f4 : T4) : T3 := fun (x1 : List ((Int) × ((Int) × (List UInt8)))) (x51 x52 : Int) (m4 m12 : (Int) × ((List (List UInt8)) × ((List (Int)) × (List ((Int) × (Int)))))) => 
  (iteB (decide (x52 < x51)) (withinR x52 (List.length m12.2.2.2) fun q6 => (bindR (s_edit_Move (x1, ((List.getD m12.2.2.2 q6 ((0 : Int), (0 : Int))).1, (true, ())))) fun r7 => (bindR (s_edit_Move (x1, ((List.getD m12.2.2.2 q6 ((0 : Int), (0 : Int))).2, (false, ())))) fun r8 => (withinR x52 (List.length m12.2.2.2) fun q9 => (f3 x1 x51 (w64 (x52 + (1 : Int))) m4 (m12.1, (m12.2.1, (m12.2.2.1, (List.set m12.2.2.2 q9 (r7.1, (maxI r7.1 r8.1))))))))))) (f4 m4 m12))
theorem e3 (k n3 : Nat) : u3 k (n3 + 1) = t3 (l3 k n3) (l4 k) := by kernel_rfl
theorem g3 (k n3 : Nat) : l3 k (n3 + 1) = u3 k (n3 + 1) := funext fun _ => funext fun _ => funext fun _ => funext fun _ => funext fun _ => cut_u _ _ _
theorem d3 {x3 y3 : T3} {x4 y4 : T4} (h3 : x3 = y3) (h4 : x4 = y4) : t3 x3 x4 = t3 y3 y4 := by subst h3; subst h4; rfl
def p3 (k : Nat) : Nat → T3
  | 0 => fun _ _ _ _ _ => none
  | n3 + 1 => t3 (p3 k n3) (p4 k)
theorem o3 (k : Nat) : ∀ n3, l3 k n3 = p3 k n3 := by
  intro n3
  induction n3 with
  | zero => kernel_rfl
  | succ n3 ih => exact (Eq.trans (b := u3 k (n3 + 1)) (g3 k n3) (Eq.trans (b := t3 (l3 k n3) (l4 k)) (e3 k n3) (Eq.trans (b := t3 (p3 k n3) (p4 k)) (d3 ih (o4 k)) (by kernel_rfl))))
def t2 (f3 : T3) : T2 := fun (x1 : List ((Int) × ((Int) × (List UInt8)))) (m4 m12 : (Int) × ((List (List UInt8)) × ((List (Int)) × (List ((Int) × (Int)))))) => 
  (f3 x1 ((List.length m12.2.2.2 : Nat) : Int) (0 : Int) m4 m12)
theorem e2 (k : Nat) : u2 k = t2 (l3 k k) := by kernel_rfl
theorem g2 (k : Nat) : l2 k = u2 k := funext fun _ => funext fun _ => funext fun _ => cut_u _ _ _
theorem d2 {x3 y3 : T3} (h3 : x3 = y3) : t2 x3 = t2 y3 := by subst h3; rfl
def p2 (k : Nat) : T2 := t2 (p3 k k)
theorem o2 (k : Nat) : l2 k = p2 k := (Eq.trans (b := u2 k) (g2 k) (Eq.trans (b := t2 (l3 k k)) (e2 k) (Eq.trans (b := t2 (p3 k k)) (d2 (o3 k k)) (by kernel_rfl))))
def t1 (f1 : T1) (f2 : T2) : T1 := fun (x1 : List ((Int) × ((Int) × (List UInt8)))) (x29 x30 : Int) (m4 m12 : (Int) × ((List (List UInt8)) × ((List (Int)) × (List ((Int) × (Int)))))) => 
  (iteB (decide (x30 < x29)) (withinR x30 (List.length m12.2.2.1) fun q3 => (bindR (s_edit_Move (x1, ((List.getD m12.2.2.1 q3 (0 : Int)), (false, ())))) fun r4 => (withinR x30 (List.length m12.2.2.1) fun q5 => (f1 x1 x29 (w64 (x30 + (1 : Int))) m4 (m12.1, (m12.2.1, ((List.set m12.2.2.1 q5 r4.1), m12.2.2.2))))))) (f2 x1 m4 m12))
theorem e1 (k n1 : Nat) : u1 k (n1 + 1) = t1 (l1 k n1) (l2 k) := by kernel_rfl
theorem g1 (k n1 : Nat) : l1 k (n1 + 1) = u1 k (n1 + 1) := funext fun _ => funext fun _ => funext fun _ => funext fun _ => funext fun _ => cut_u _ _ _
theorem d1 {x1 y1 : T1} {x2 y2 : T2} (h1 : x1 = y1) (h2 : x2 = y2) : t1 x1 x2 = t1 y1 y2 := by subst h1; subst h2; rfl
def p1 (k : Nat) : Nat → T1
  | 0 => fun _ _ _ _ _ => none
  | n1 + 1 => t1 (p1 k n1) (p2 k)
theorem o1 (k : Nat) : ∀ n1, l1 k n1 = p1 k n1 := by
  intro n1
  induction n1 with
  | zero => kernel_rfl
  | succ n1 ih => exact (Eq.trans (b := u1 k (n1 + 1)) (g1 k n1) (Eq.trans (b := t1 (l1 k n1) (l2 k)) (e1 k n1) (Eq.trans (b := t1 (p1 k n1) (p2 k)) (d1 ih (o2 k)) (by kernel_rfl))))
def t0 (f1 : T1) : T0 := fun (x0 : (Int) × ((List (List UInt8)) × ((List (Int)) × (List ((Int) × (Int)))))) (x1 : List ((Int) × ((Int) × (List UInt8)))) => 
  (bindR (s_marks_of (x0, ())) fun r1 => (bindR (s_edit_Move (x1, (r1.1.1, (true, ())))) fun r2 => (f1 x1 ((List.length r1.1.2.2.1 : Nat) : Int) (0 : Int) ((0 : Int), (([] : List (List UInt8)), (([] : List (Int)), ([] : List ((Int) × (Int)))))) (r2.1, r1.1.2))))
theorem e0 (k : Nat) : u0 k = t0 (l1 k k) := by kernel_rfl
theorem d0 {x1 y1 : T1} (h1 : x1 = y1) : t0 x1 = t0 y1 := by subst h1; rfl
def p0 (k : Nat) : T0 := t0 (p1 k k)
theorem o0 (k : Nat) : u0 k = p0 k := (Eq.trans (b := t0 (l1 k k)) (e0 k) (Eq.trans (b := t0 (p1 k k)) (d0 (o1 k k)) (by kernel_rfl)))
end marks_Move
def s_marks_Move (a : ((Int) × ((List (List UInt8)) × ((List (Int)) × (List ((Int) × (Int)))))) × ((List ((Int) × ((Int) × (List UInt8)))) × (Unit))) : Option (((Int) × ((List (List UInt8)) × ((List (Int)) × (List ((Int) × (Int)))))) × (Unit)) := marks_Move.p0 (fuel) a.1 a.2.1
noncomputable def F_marks_Move : FSpec cx.toNm := { ps := [.val (.agg (.pair (.int .i64) (.pair (.slice 9 .str) (.pair (.slice 3 (.int .i64)) (.slice 33 (.agg (.pair (.int .i64) (.int .i64)))))))), .val (.slice 41 (.agg (.pair (.int .i64) (.pair (.int .i64) .str))))], nres := 1, rt := (.agg (.pair (.int .i64) (.pair (.slice 9 .str) (.pair (.slice 3 (.int .i64)) (.slice 33 (.agg (.pair (.int .i64) (.int .i64)))))))), rm := .ro, f := s_marks_Move }
theorem w_marks_Move (a : ((Int) × ((List (List UInt8)) × ((List (Int)) × (List ((Int) × (Int)))))) × ((List ((Int) × ((Int) × (List UInt8)))) × (Unit))) : runOf (S := cx) marks_Move.E marks_Move.h (fuel) Try.f20 F_marks_Move.ps F_marks_Move.rt F_marks_Move.rm a = F_marks_Move.f a := Eq.trans (b := marks_Move.u0 (fuel) a.1 a.2.1) (by kernel_rfl) (Eq.trans (b := marks_Move.p0 (fuel) a.1 a.2.1) (congrFun (congrFun (marks_Move.o0 (fuel)) a.1) a.2.1) (by kernel_rfl))
theorem ok_marks_Move : FnOk Try.prog F_marks_Move 20 := fn_of (hn := marks_Move.h) (E := marks_Move.E) cxOk (tysT _) (fs_cons ok_edit_Move (fs_cons ok_marks_of fs_nil)) follows Try.func20 (by kernel_rfl) (fun a r h => ⟨fuel, Eq.trans (w_marks_Move a) h⟩)
namespace marks_isName
noncomputable def E : Env cx := { tys := tys, fs := fsOf [] }
abbrev R := Option ((Bool) × (Unit))
abbrev C := Exit → ST cx → R
noncomputable def b : Code := bodyC Try.f76
noncomputable def h : Hint := { vs := [0, 2], nil := [], cuts := [], ret := ([2], []), ords := [] }
noncomputable def K0 : C := fin (S := cx) E Try.f76.results.toList .bool .ro [] []
noncomputable def c0 : Code := subC b [1]
noncomputable def K1 (k : Nat) : C := outD h c0 K0
noncomputable def K2 (k : Nat) : C := seqC E h k c0 K0
noncomputable def c1 : Code := subC b [1, 1]
noncomputable def K3 (k : Nat) : C := outD h c1 (K1 k)
noncomputable def K4 (k : Nat) : C := seqC E h k c1 (K1 k)
abbrev T0 := (List UInt8) → R
noncomputable def u0 (k : Nat) : T0 := fun (x0 : List UInt8) => runOf (S := cx) E h k Try.f76 [.val .str] .bool .ro (x0, ())
def t0 : T0 := fun (x0 : List UInt8) => 
  (iteB (!(decide (x0 = ([] : List UInt8)))) (some ((decide (((List.length x0 : Nat) : Int) ≤ (16 : Int))), ())) (some (false, ())))
theorem e0 (k : Nat) : u0 k = t0 := by kernel_rfl
def p0 (k : Nat) : T0 := t0
theorem o0 (k : Nat) : u0 k = p0 k := (Eq.trans (b := t0) (e0 k) (by kernel_rfl))
end marks_isName
def s_marks_isName (a : (List UInt8) × (Unit)) : Option ((Bool) × (Unit)) := marks_isName.p0 (fuel) a.1
noncomputable def F_marks_isName : FSpec cx.toNm := { ps := [.val .str], nres := 1, rt := .bool, rm := .ro, f := s_marks_isName }
theorem w_marks_isName (a : (List UInt8) × (Unit)) : runOf (S := cx) marks_isName.E marks_isName.h (fuel) Try.f76 F_marks_isName.ps F_marks_isName.rt F_marks_isName.rm a = F_marks_isName.f a := Eq.trans (b := marks_isName.u0 (fuel) a.1) (by kernel_rfl) (Eq.trans (b := marks_isName.p0 (fuel) a.1) (congrFun (marks_isName.o0 (fuel)) a.1) (by kernel_rfl))
theorem ok_marks_isName : FnOk Try.prog F_marks_isName 76 := fn_of (hn := marks_isName.h) (E := marks_isName.E) cxOk (tysT _) fs_nil follows Try.func76 (by kernel_rfl) (fun a r h => ⟨fuel, Eq.trans (w_marks_isName a) h⟩)
namespace cmp_isNaN
noncomputable def E : Env cx := { tys := tys, fs := fsOf [] }
abbrev R := Option ((Bool) × (Unit))
abbrev C := Exit → ST cx → R
noncomputable def b : Code := bodyC Try.f130
noncomputable def h : Hint := { vs := [0, 2], nil := [], cuts := [], ret := ([2], []), ords := [] }
noncomputable def K0 : C := fin (S := cx) E Try.f130.results.toList .bool .ro [] []
noncomputable def c0 : Code := subC b [1]
noncomputable def K1 (k : Nat) : C := outD h c0 K0
noncomputable def K2 (k : Nat) : C := seqC E h k c0 K0
noncomputable def c1 : Code := subC b [1, 1]
noncomputable def K3 (k : Nat) : C := outD h c1 (K1 k)
noncomputable def K4 (k : Nat) : C := seqC E h k c1 (K1 k)
abbrev T0 := (List UInt8) → R
noncomputable def u0 (k : Nat) : T0 := fun (x0 : List UInt8) => runOf (S := cx) E h k Try.f130 [.val .str] .bool .ro (x0, ())
def t0 : T0 := fun (x0 : List UInt8) => 
  (some ((!(decide (x0 = x0))), ()))
theorem e0 (k : Nat) : u0 k = t0 := by kernel_rfl
def p0 (k : Nat) : T0 := t0
theorem o0 (k : Nat) : u0 k = p0 k := (Eq.trans (b := t0) (e0 k) (by kernel_rfl))
end cmp_isNaN
def s_cmp_isNaN (a : (List UInt8) × (Unit)) : Option ((Bool) × (Unit)) := cmp_isNaN.p0 (fuel) a.1
noncomputable def F_cmp_isNaN : FSpec cx.toNm := { ps := [.val .str], nres := 1, rt := .bool, rm := .ro, f := s_cmp_isNaN }
theorem w_cmp_isNaN (a : (List UInt8) × (Unit)) : runOf (S := cx) cmp_isNaN.E cmp_isNaN.h (fuel) Try.f130 F_cmp_isNaN.ps F_cmp_isNaN.rt F_cmp_isNaN.rm a = F_cmp_isNaN.f a := Eq.trans (b := cmp_isNaN.u0 (fuel) a.1) (by kernel_rfl) (Eq.trans (b := cmp_isNaN.p0 (fuel) a.1) (congrFun (cmp_isNaN.o0 (fuel)) a.1) (by kernel_rfl))
theorem ok_cmp_isNaN : FnOk Try.prog F_cmp_isNaN 130 := fn_of (hn := cmp_isNaN.h) (E := cmp_isNaN.E) cxOk (tysT _) fs_nil follows Try.func130 (by kernel_rfl) (fun a r h => ⟨fuel, Eq.trans (w_cmp_isNaN a) h⟩)
namespace cmp_Less
noncomputable def E : Env cx := { tys := tys, fs := fsOf [(130, F_cmp_isNaN)] }
abbrev R := Option ((Bool) × (Unit))
abbrev C := Exit → ST cx → R
noncomputable def b : Code := bodyC Try.f116
noncomputable def h : Hint := { vs := [0, 1, 4], nil := [], cuts := [], ret := ([4], []), ords := [] }
noncomputable def K0 : C := fin (S := cx) E Try.f116.results.toList .bool .ro [] []
noncomputable def c0 : Code := subC b [1]
noncomputable def K1 (k : Nat) : C := outD h c0 K0
noncomputable def K2 (k : Nat) : C := seqC E h k c0 K0
noncomputable def c1 : Code := subC b [1, 1]
noncomputable def K3 (k : Nat) : C := outD h c1 (K1 k)
noncomputable def K4 (k : Nat) : C := seqC E h k c1 (K1 k)
abbrev T0 := (List UInt8) → (List UInt8) → R
noncomputable def u0 (k : Nat) : T0 := fun (x0 x1 : List UInt8) => runOf (S := cx) E h k Try.f116 [.val .str, .val .str] .bool .ro (x0, x1, ())
def t0 : T0 := fun (x0 x1 : List UInt8) => 
  (bindR (s_cmp_isNaN (x0, ())) fun r1 => (iteB r1.1 (bindR (s_cmp_isNaN (x1, ())) fun r2 => (iteB (notB r2.1) (some (true, ())) (some ((Op.bytesLess x0 x1), ())))) (some ((Op.bytesLess x0 x1), ()))))
theorem e0 (k : Nat) : u0 k = t0 := by kernel_rfl
def p0 (k : Nat) : T0 := t0
theorem o0 (k : Nat) : u0 k = p0 k := (Eq.trans (b := t0) (e0 k) (by kernel_rfl))
end cmp_Less
def s_cmp_Less (a : (List UInt8) × ((List UInt8) × (Unit))) : Option ((Bool) × (Unit)) := cmp_Less.p0 (fuel) a.1 a.2.1
noncomputable def F_cmp_Less : FSpec cx.toNm := { ps := [.val .str, .val .str], nres := 1, rt := .bool, rm := .ro, f := s_cmp_Less }
theorem w_cmp_Less (a : (List UInt8) × ((List UInt8) × (Unit))) : runOf (S := cx) cmp_Less.E cmp_Less.h (fuel) Try.f116 F_cmp_Less.ps F_cmp_Less.rt F_cmp_Less.rm a = F_cmp_Less.f a := Eq.trans (b := cmp_Less.u0 (fuel) a.1 a.2.1) (by kernel_rfl) (Eq.trans (b := cmp_Less.p0 (fuel) a.1 a.2.1) (congrFun (congrFun (cmp_Less.o0 (fuel)) a.1) a.2.1) (by kernel_rfl))
theorem ok_cmp_Less : FnOk Try.prog F_cmp_Less 116 := fn_of (hn := cmp_Less.h) (E := cmp_Less.E) cxOk (tysT _) (fs_cons ok_cmp_isNaN fs_nil) follows Try.func116 (by kernel_rfl) (fun a r h => ⟨fuel, Eq.trans (w_cmp_Less a) h⟩)
namespace slices_isNaN
noncomputable def E : Env cx := { tys := tys, fs := fsOf [] }
abbrev R := Option ((Bool) × (Unit))
abbrev C := Exit → ST cx → R
noncomputable def b : Code := bodyC Try.f117
noncomputable def h : Hint := { vs := [0, 2], nil := [], cuts := [], ret := ([2], []), ords := [] }
noncomputable def K0 : C := fin (S := cx) E Try.f117.results.toList .bool .ro [] []
noncomputable def c0 : Code := subC b [1]
noncomputable def K1 (k : Nat) : C := outD h c0 K0
noncomputable def K2 (k : Nat) : C := seqC E h k c0 K0
noncomputable def c1 : Code := subC b [1, 1]
noncomputable def K3 (k : Nat) : C := outD h c1 (K1 k)
noncomputable def K4 (k : Nat) : C := seqC E h k c1 (K1 k)
abbrev T0 := (List UInt8) → R
noncomputable def u0 (k : Nat) : T0 := fun (x0 : List UInt8) => runOf (S := cx) E h k Try.f117 [.val .str] .bool .ro (x0, ())
def t0 : T0 := fun (x0 : List UInt8) => 
  (some ((!(decide (x0 = x0))), ()))
theorem e0 (k : Nat) : u0 k = t0 := by kernel_rfl
def p0 (k : Nat) : T0 := t0
theorem o0 (k : Nat) : u0 k = p0 k := (Eq.trans (b := t0) (e0 k) (by kernel_rfl))
end slices_isNaN
def s_slices_isNaN (a : (List UInt8) × (Unit)) : Option ((Bool) × (Unit)) := slices_isNaN.p0 (fuel) a.1
noncomputable def F_slices_isNaN : FSpec cx.toNm := { ps := [.val .str], nres := 1, rt := .bool, rm := .ro, f := s_slices_isNaN }
theorem w_slices_isNaN (a : (List UInt8) × (Unit)) : runOf (S := cx) slices_isNaN.E slices_isNaN.h (fuel) Try.f117 F_slices_isNaN.ps F_slices_isNaN.rt F_slices_isNaN.rm a = F_slices_isNaN.f a := Eq.trans (b := slices_isNaN.u0 (fuel) a.1) (by kernel_rfl) (Eq.trans (b := slices_isNaN.p0 (fuel) a.1) (congrFun (slices_isNaN.o0 (fuel)) a.1) (by kernel_rfl))
theorem ok_slices_isNaN : FnOk Try.prog F_slices_isNaN 117 := fn_of (hn := slices_isNaN.h) (E := slices_isNaN.E) cxOk (tysT _) fs_nil follows Try.func117 (by kernel_rfl) (fun a r h => ⟨fuel, Eq.trans (w_slices_isNaN a) h⟩)
namespace slices_BinarySearch
noncomputable def E : Env cx := { tys := tys, fs := fsOf [(116, F_cmp_Less), (117, F_slices_isNaN)] }
abbrev R := Option (((Int) × (Bool)) × (Unit))
abbrev C := Exit → ST cx → R
noncomputable def b : Code := bodyC Try.f80
noncomputable def h : Hint := { vs := [0, 1, 4, 5, 6, 7, 8, 9], nil := [], cuts := [(3, ([0, 1, 6, 7, 8], []), ([0, 1, 6, 7, 8], [])), (8, ([0, 1, 6, 7], []), ([0, 1, 6, 7], []))], ret := ([4, 5], []), ords := [] }
noncomputable def K0 : C := fin (S := cx) E Try.f80.results.toList (.pair (.int .i64) .bool) .ro [] []
noncomputable def c0 : Code := subC b [1]
noncomputable def K1 (k : Nat) : C := outD h c0 K0
noncomputable def K2 (k : Nat) : C := seqC E h k c0 K0
noncomputable def c1 : Code := subC b [1, 1]
noncomputable def K3 (k : Nat) : C := outD h c1 (K1 k)
noncomputable def K4 (k : Nat) : C := seqC E h k c1 (K1 k)
noncomputable def c2 : Code := subC b [1, 1, 1]
noncomputable def K5 (k : Nat) : C := outD h c2 (K3 k)
noncomputable def K6 (k : Nat) : C := seqC E h k c2 (K3 k)
noncomputable def c3 : Code := subC b [1, 1, 1, 1]
noncomputable def K7 (k : Nat) : C := outD h c3 (K5 k)
noncomputable def K8 (k : Nat) : C := seqC E h k c3 (K5 k)
noncomputable def K9 (k : Nat) : C := blockK 0 (K8 k)
noncomputable def c4 : Code := subC b [1, 1, 1, 0, 0, 0]
noncomputable def K10 (k n1 : Nat) : C := loopD E h k c4 (K9 k) n1
noncomputable def c5 : Code := subC b [1, 1, 1, 0, 0, 0, 1]
noncomputable def K11 (k n1 : Nat) : C := outD h c5 (K10 k n1)
noncomputable def K12 (k n1 : Nat) : C := seqC E h k c5 (K10 k n1)
noncomputable def c6 : Code := subC b [1, 1, 1, 0, 0, 0, 0, 1]
noncomputable def K13 (k n1 : Nat) : C := outD h c6 (K12 k n1)
noncomputable def K14 (k n1 : Nat) : C := seqC E h k c6 (K12 k n1)
noncomputable def K15 (k n1 : Nat) : C := blockK 1 (K11 k n1)
noncomputable def c7 : Code := subC b [1, 1, 1, 0, 0, 0, 1, 0, 1]
noncomputable def K16 (k n1 : Nat) : C := outD h c7 (K15 k n1)
noncomputable def K17 (k n1 : Nat) : C := seqC E h k c7 (K15 k n1)
noncomputable def c8 : Code := subC b [1, 1, 1, 0, 0, 0, 1, 0, 1, 1]
noncomputable def K18 (k n1 : Nat) : C := outD h c8 (K16 k n1)
noncomputable def K19 (k n1 : Nat) : C := seqC E h k c8 (K16 k n1)
noncomputable def c9 : Code := subC b [1, 1, 1, 1, 1]
noncomputable def K20 (k : Nat) : C := outD h c9 (K7 k)
noncomputable def K21 (k : Nat) : C := seqC E h k c9 (K7 k)
abbrev T2 := (List (List UInt8)) → (List UInt8) → Int → Int → R
abbrev T1 := (List (List UInt8)) → (List UInt8) → Int → Int → Int → R
abbrev T0 := (List (List UInt8)) → (List UInt8) → R
abbrev s2 : (List (List UInt8)) → (List UInt8) → Int → Int → ST cx := fun (x0 : List (List UInt8)) (x1 : List UInt8) (x6 x7 : Int) => ({ vars := [(0, .v (.slice 9 .str) .ro x0), (1, .v .str .ro x1), (6, .v (.int .i64) .ro x6), (7, .v (.int .i64) .ro x7)], scr := [], mems := [] } : ST cx)
noncomputable def u2 (k : Nat) : T2 := fun (x0 : List (List UInt8)) (x1 : List UInt8) (x6 x7 : Int) => uK (run E h k c3) (s2 x0 x1 x6 x7) (K7 k)
noncomputable abbrev l2 (k : Nat) : T2 := fun (x0 : List (List UInt8)) (x1 : List UInt8) (x6 x7 : Int) => cutK (run E h k c3) (s2 x0 x1 x6 x7) (K7 k)
abbrev s1 : (List (List UInt8)) → (List UInt8) → Int → Int → Int → ST cx := fun (x0 : List (List UInt8)) (x1 : List UInt8) (x6 x7 x8 : Int) => ({ vars := [(0, .v (.slice 9 .str) .ro x0), (1, .v .str .ro x1), (6, .v (.int .i64) .ro x6), (7, .v (.int .i64) .ro x7), (8, .v (.int .i64) .ro x8)], scr := [], mems := [] } : ST cx)
noncomputable def u1 (k n1 : Nat) : T1 := fun (x0 : List (List UInt8)) (x1 : List UInt8) (x6 x7 x8 : Int) => uK (loopL E h k c4 (K9 k) n1) (s1 x0 x1 x6 x7 x8) ()
noncomputable abbrev l1 (k n1 : Nat) : T1 := fun (x0 : List (List UInt8)) (x1 : List UInt8) (x6 x7 x8 : Int) => cutK (loopL E h k c4 (K9 k) n1) (s1 x0 x1 x6 x7 x8) ()
noncomputable def u0 (k : Nat) : T0 := fun (x0 : List (List UInt8)) (x1 : List UInt8) => runOf (S := cx) E h k Try.f80 [.val (.slice 9 .str), .val .str] (.pair (.int .i64) .bool) .ro (x0, x1, ())
def t2 : T2 := fun (x0 : List (List UInt8)) (x1 : List UInt8) (x6 x7 : Int) => 
  (iteB (decide (x7 < x6)) (withinR x7 (List.length x0) fun q3 => (iteB (decide ((List.getD x0 q3 ([] : List UInt8)) = x1)) (some ((x7, true), ())) (withinR x7 (List.length x0) fun q4 => (bindR (s_slices_isNaN ((List.getD x0 q4 ([] : List UInt8)), ())) fun r5 => (iteB r5.1 (bindR (s_slices_isNaN (x1, ())) fun r6 => (some ((x7, r6.1), ()))) (some ((x7, false), ()))))))) (some ((x7, false), ())))
theorem e2 (k : Nat) : u2 k = t2 := by kernel_rfl
theorem g2 (k : Nat) : l2 k = u2 k := funext fun _ => funext fun _ => funext fun _ => funext fun _ => cut_u _ _ _
def p2 (k : Nat) : T2 := t2
theorem o2 (k : Nat) : l2 k = p2 k := (Eq.trans (b := u2 k) (g2 k) (Eq.trans (b := t2) (e2 k) (by kernel_rfl)))
def t1 (f1 : T1) (f2 : T2) : T1 := fun (x0 : List (List UInt8)) (x1 : List UInt8) (x6 x7 x8 : Int) => 
  (iteB (decide (x7 < x8)) (withinR (w64 ((shrI .u64 (IntKind.wrap .u64 ((w64 (x7 + x8)))) (1 : Int)))) (List.length x0) fun q1 => (bindR (s_cmp_Less ((List.getD x0 q1 ([] : List UInt8)), (x1, ()))) fun r2 => (iteB r2.1 (f1 x0 x1 x6 (w64 ((w64 ((shrI .u64 (IntKind.wrap .u64 ((w64 (x7 + x8)))) (1 : Int)))) + (1 : Int))) x8) (f1 x0 x1 x6 x7 (w64 ((shrI .u64 (IntKind.wrap .u64 ((w64 (x7 + x8)))) (1 : Int)))))))) (f2 x0 x1 x6 x7))
theorem e1 (k n1 : Nat) : u1 k (n1 + 1) = t1 (l1 k n1) (l2 k) := by kernel_rfl
theorem g1 (k n1 : Nat) : l1 k (n1 + 1) = u1 k (n1 + 1) := funext fun _ => funext fun _ => funext fun _ => funext fun _ => funext fun _ => cut_u _ _ _
theorem d1 {x1 y1 : T1} {x2 y2 : T2} (h1 : x1 = y1) (h2 : x2 = y2) : t1 x1 x2 = t1 y1 y2 := by subst h1; subst h2; rfl
def p1 (k : Nat) : Nat → T1
  | 0 => fun _ _ _ _ _ => none
  | n1 + 1 => t1 (p1 k n1) (p2 k)
theorem o1 (k : Nat) : ∀ n1, l1 k n1 = p1 k n1 := by
  intro n1
  induction n1 with
  | zero => kernel_rfl
  | succ n1 ih => exact (Eq.trans (b := u1 k (n1 + 1)) (g1 k n1) (Eq.trans (b := t1 (l1 k n1) (l2 k)) (e1 k n1) (Eq.trans (b := t1 (p1 k n1) (p2 k)) (d1 ih (o2 k)) (by kernel_rfl))))
def t0 (f1 : T1) : T0 := fun (x0 : List (List UInt8)) (x1 : List UInt8) => 
  (f1 x0 x1 ((List.length x0 : Nat) : Int) (0 : Int) ((List.length x0 : Nat) : Int))
theorem e0 (k : Nat) : u0 k = t0 (l1 k k) := by kernel_rfl
theorem d0 {x1 y1 : T1} (h1 : x1 = y1) : t0 x1 = t0 y1 := by subst h1; rfl
def p0 (k : Nat) : T0 := t0 (p1 k k)
theorem o0 (k : Nat) : u0 k = p0 k := (Eq.trans (b := t0 (l1 k k)) (e0 k) (Eq.trans (b := t0 (p1 k k)) (d0 (o1 k k)) (by kernel_rfl)))
end slices_BinarySearch
def s_slices_BinarySearch (a : (List (List UInt8)) × ((List UInt8) × (Unit))) : Option (((Int) × (Bool)) × (Unit)) := slices_BinarySearch.p0 (fuel) a.1 a.2.1
noncomputable def F_slices_BinarySearch : FSpec cx.toNm := { ps := [.val (.slice 9 .str), .val .str], nres := 2, rt := (.pair (.int .i64) .bool), rm := .ro, f := s_slices_BinarySearch }
theorem w_slices_BinarySearch (a : (List (List UInt8)) × ((List UInt8) × (Unit))) : runOf (S := cx) slices_BinarySearch.E slices_BinarySearch.h (fuel) Try.f80 F_slices_BinarySearch.ps F_slices_BinarySearch.rt F_slices_BinarySearch.rm a = F_slices_BinarySearch.f a := Eq.trans (b := slices_BinarySearch.u0 (fuel) a.1 a.2.1) (by kernel_rfl) (Eq.trans (b := slices_BinarySearch.p0 (fuel) a.1 a.2.1) (congrFun (congrFun (slices_BinarySearch.o0 (fuel)) a.1) a.2.1) (by kernel_rfl))
theorem ok_slices_BinarySearch : FnOk Try.prog F_slices_BinarySearch 80 := fn_of (hn := slices_BinarySearch.h) (E := slices_BinarySearch.E) cxOk (tysT _) (fs_cons ok_cmp_Less (fs_cons ok_slices_isNaN fs_nil)) follows Try.func80 (by kernel_rfl) (fun a r h => ⟨fuel, Eq.trans (w_slices_BinarySearch a) h⟩)
namespace marks_Set
noncomputable def E : Env cx := { tys := tys, fs := fsOf [(75, F_marks_of), (76, F_marks_isName), (80, F_slices_BinarySearch), (81, F_InsertS), (82, F_InsertI)] }
abbrev R := Option ((((Int) × ((List (List UInt8)) × ((List (Int)) × (List ((Int) × (Int)))))) × (Int)) × (Unit))
abbrev C := Exit → ST cx → R
noncomputable def b : Code := bodyC Try.f28
noncomputable def h : Hint := { vs := [0, 1, 2, 3, 4, 8, 9, 10, 11, 12], nil := [], cuts := [(5, ([1, 2, 4, 8, 10, 11, 25], [4, 8]), ([1, 2, 4, 8, 10, 11], [4, 8])), (7, ([1, 2, 4, 8, 10, 11, 34], [4, 8]), ([1, 2, 4, 8, 10, 11], [4, 8])), (8, ([1, 2, 4, 8, 10, 11], [4, 8]), ([1, 2, 4, 8, 10, 11], [4, 8]))], ret := ([8, 9], [4, 8, 45]), ords := [], trees := [(12, (.step 0 (.step 1 (.step 2 (.step 3 (.step 4 (.step 5 (.step 6 (.step 7 (.step 8 (.step 11 (.step 12 (.step 13 (.step 14 (.step 16 (.step 17 (.both (.step 9 (.both (.step 10 (.step 15 (.step 18 (.step 19 (.step 20 (.step 21 (.step 22 (.step 23 (.step 24 (.step 25 (.step 26 (.step 27 .done)))))))))))) (.both (.step 15 (.both (.step 10 (.step 18 (.step 19 (.step 20 (.step 21 (.step 22 (.step 23 (.step 24 (.step 25 (.step 26 (.step 27 .done))))))))))) (.step 18 (.step 10 (.step 19 (.step 20 (.step 21 (.step 22 (.step 23 (.step 24 (.step 25 (.step 26 (.step 27 .done))))))))))))) (.step 18 (.both (.step 10 (.step 15 (.step 19 (.step 20 (.step 21 (.step 22 (.step 23 (.step 24 (.step 25 (.step 26 (.step 27 .done))))))))))) (.step 15 (.step 10 (.step 19 (.step 20 (.step 21 (.step 22 (.step 23 (.step 24 (.step 25 (.step 26 (.step 27 .done)))))))))))))))) (.both (.step 15 (.both (.step 9 (.both (.step 10 (.step 18 (.step 19 (.step 20 (.step 21 (.step 22 (.step 23 (.step 24 (.step 25 (.step 26 (.step 27 .done))))))))))) (.step 18 (.step 10 (.step 19 (.step 20 (.step 21 (.step 22 (.step 23 (.step 24 (.step 25 (.step 26 (.step 27 .done))))))))))))) (.step 18 (.step 9 (.step 10 (.step 19 (.step 20 (.step 21 (.step 22 (.step 23 (.step 24 (.step 25 (.step 26 (.step 27 .done)))))))))))))) (.step 18 (.both (.step 9 (.both (.step 10 (.step 15 (.step 19 (.step 20 (.step 21 (.step 22 (.step 23 (.step 24 (.step 25 (.step 26 (.step 27 .done))))))))))) (.step 15 (.step 10 (.step 19 (.step 20 (.step 21 (.step 22 (.step 23 (.step 24 (.step 25 (.step 26 (.step 27 .done))))))))))))) (.step 15 (.step 9 (.step 10 (.step 19 (.step 20 (.step 21 (.step 22 (.step 23 (.step 24 (.step 25 (.step 26 (.step 27 .done))))))))))))))))))))))))))))))))] }
noncomputable def K0 : C := fin (S := cx) E Try.f28.results.toList (.pair (.agg (.pair (.int .i64) (.pair (.slice 9 .str) (.pair (.slice 3 (.int .i64)) (.slice 33 (.agg (.pair (.int .i64) (.int .i64)))))))) (.int .i64)) .ro [] []
noncomputable def c0 : Code := subC b [1]
noncomputable def K1 (k : Nat) : C := outD h c0 K0
noncomputable def K2 (k : Nat) : C := seqC E h k c0 K0
noncomputable def c1 : Code := subC b [1, 1]
noncomputable def K3 (k : Nat) : C := outD h c1 (K1 k)
noncomputable def K4 (k : Nat) : C := seqC E h k c1 (K1 k)
noncomputable def c2 : Code := subC b [1, 1, 1]
noncomputable def K5 (k : Nat) : C := outD h c2 (K3 k)
noncomputable def K6 (k : Nat) : C := seqC E h k c2 (K3 k)
noncomputable def K7 (k : Nat) : C := blockK 0 (K6 k)
noncomputable def c3 : Code := subC b [1, 1, 0, 0, 1]
noncomputable def K8 (k : Nat) : C := outD h c3 (K7 k)
noncomputable def K9 (k : Nat) : C := seqC E h k c3 (K7 k)
noncomputable def c4 : Code := subC b [1, 1, 0, 0, 1, 0, 1]
noncomputable def K10 (k : Nat) : C := outD h c4 (K8 k)
noncomputable def K11 (k : Nat) : C := seqC E h k c4 (K8 k)
noncomputable def c5 : Code := subC b [1, 1, 0, 0, 1, 1, 1]
noncomputable def K12 (k : Nat) : C := outD h c5 (K8 k)
noncomputable def K13 (k : Nat) : C := seqC E h k c5 (K8 k)
noncomputable def c6 : Code := subC b [1, 1, 0, 0, 1, 1, 1, 0, 1]
noncomputable def K14 (k : Nat) : C := outD h c6 (K12 k)
noncomputable def K15 (k : Nat) : C := seqC E h k c6 (K12 k)
noncomputable def c7 : Code := subC b [1, 1, 0, 0, 1, 1, 1, 1, 1]
noncomputable def K16 (k : Nat) : C := outD h c7 (K12 k)
noncomputable def K17 (k : Nat) : C := seqC E h k c7 (K12 k)
noncomputable def c8 : Code := subC b [1, 1, 0, 0, 1, 1, 1, 1, 1, 0, 1]
noncomputable def K18 (k : Nat) : C := outD h c8 (K16 k)
noncomputable def K19 (k : Nat) : C := seqC E h k c8 (K16 k)
noncomputable def c9 : Code := subC b [1, 1, 1, 1]
noncomputable def K20 (k : Nat) : C := outD h c9 (K5 k)
noncomputable def K21 (k : Nat) : C := seqC E h k c9 (K5 k)
noncomputable def c10 : Code := subC b [1, 1, 1, 1, 1]
noncomputable def K22 (k : Nat) : C := outD h c10 (K20 k)
noncomputable def K23 (k : Nat) : C := seqC E h k c10 (K20 k)
noncomputable def c11 : Code := subC b [1, 1, 1, 1, 0, 1]
noncomputable def K24 (k : Nat) : C := outD h c11 (K23 k)
noncomputable def K25 (k : Nat) : C := seqC E h k c11 (K23 k)
noncomputable def c12 : Code := subC b [1, 1, 1, 1, 0, 1, 0, 1]
noncomputable def K26 (k : Nat) : C := outD h c12 (K24 k)
noncomputable def K27 (k : Nat) : C := seqC E h k c12 (K24 k)
noncomputable def c13 : Code := subC b [1, 1, 1, 1, 0, 1, 0, 1, 1]
noncomputable def K28 (k : Nat) : C := outD h c13 (K26 k)
noncomputable def K29 (k : Nat) : C := seqC E h k c13 (K26 k)
noncomputable def c14 : Code := subC b [1, 1, 1, 1, 1, 1]
noncomputable def K30 (k : Nat) : C := outD h c14 (K22 k)
noncomputable def K31 (k : Nat) : C := seqC E h k c14 (K22 k)
noncomputable def c15 : Code := subC b [1, 1, 1, 1, 1, 1, 1]
noncomputable def K32 (k : Nat) : C := outD h c15 (K30 k)
noncomputable def K33 (k : Nat) : C := seqC E h k c15 (K30 k)
abbrev T3 := (List UInt8) → Int → Int → Bool → ((Int) × ((List (List UInt8)) × ((List (Int)) × (List ((Int) × (Int)))))) → ((Int) × ((List (List UInt8)) × ((List (Int)) × (List ((Int) × (Int)))))) → R
abbrev T2 := (List UInt8) → Int → Int → Bool → Bool → ((Int) × ((List (List UInt8)) × ((List (Int)) × (List ((Int) × (Int)))))) → ((Int) × ((List (List UInt8)) × ((List (Int)) × (List ((Int) × (Int)))))) → R
abbrev T1 := (List UInt8) → Int → Int → Bool → Bool → ((Int) × ((List (List UInt8)) × ((List (Int)) × (List ((Int) × (Int)))))) → ((Int) × ((List (List UInt8)) × ((List (Int)) × (List ((Int) × (Int)))))) → R
abbrev T0 := ((Int) × ((List (List UInt8)) × ((List (Int)) × (List ((Int) × (Int)))))) → (List UInt8) → Int → Int → R
abbrev s3 : (List UInt8) → Int → Int → Bool → ((Int) × ((List (List UInt8)) × ((List (Int)) × (List ((Int) × (Int)))))) → ((Int) × ((List (List UInt8)) × ((List (Int)) × (List ((Int) × (Int)))))) → ST cx := fun (x1 : List UInt8) (x2 x10 : Int) (x11 : Bool) (m4 m8 : (Int) × ((List (List UInt8)) × ((List (Int)) × (List ((Int) × (Int)))))) => ({ vars := [(1, .v .str .ro x1), (2, .v (.int .i64) .ro x2), (4, .addr (.mem 4) []), (8, .addr (.mem 8) []), (10, .v (.int .i64) .ro x10), (11, .v .bool .ro x11)], scr := [], mems := [(4, ⟨(.agg (.pair (.int .i64) (.pair (.slice 9 .str) (.pair (.slice 3 (.int .i64)) (.slice 33 (.agg (.pair (.int .i64) (.int .i64)))))))), .ro, m4⟩), (8, ⟨(.agg (.pair (.int .i64) (.pair (.slice 9 .str) (.pair (.slice 3 (.int .i64)) (.slice 33 (.agg (.pair (.int .i64) (.int .i64)))))))), .ro, m8⟩)] } : ST cx)
noncomputable def u3 (k : Nat) : T3 := fun (x1 : List UInt8) (x2 x10 : Int) (x11 : Bool) (m4 m8 : (Int) × ((List (List UInt8)) × ((List (Int)) × (List ((Int) × (Int)))))) => uK (run E h k c2) (s3 x1 x2 x10 x11 m4 m8) (K5 k)
noncomputable abbrev l3 (k : Nat) : T3 := fun (x1 : List UInt8) (x2 x10 : Int) (x11 : Bool) (m4 m8 : (Int) × ((List (List UInt8)) × ((List (Int)) × (List ((Int) × (Int)))))) => cutK (run E h k c2) (s3 x1 x2 x10 x11 m4 m8) (K5 k)
abbrev s2 : (List UInt8) → Int → Int → Bool → Bool → ((Int) × ((List (List UInt8)) × ((List (Int)) × (List ((Int) × (Int)))))) → ((Int) × ((List (List UInt8)) × ((List (Int)) × (List ((Int) × (Int)))))) → ST cx := fun (x1 : List UInt8) (x2 x10 : Int) (x11 x34 : Bool) (m4 m8 : (Int) × ((List (List UInt8)) × ((List (Int)) × (List ((Int) × (Int)))))) => ({ vars := [(1, .v .str .ro x1), (2, .v (.int .i64) .ro x2), (4, .addr (.mem 4) []), (8, .addr (.mem 8) []), (10, .v (.int .i64) .ro x10), (11, .v .bool .ro x11), (34, .v .bool .ro x34)], scr := [], mems := [(4, ⟨(.agg (.pair (.int .i64) (.pair (.slice 9 .str) (.pair (.slice 3 (.int .i64)) (.slice 33 (.agg (.pair (.int .i64) (.int .i64)))))))), .ro, m4⟩), (8, ⟨(.agg (.pair (.int .i64) (.pair (.slice 9 .str) (.pair (.slice 3 (.int .i64)) (.slice 33 (.agg (.pair (.int .i64) (.int .i64)))))))), .ro, m8⟩)] } : ST cx)
noncomputable def u2 (k : Nat) : T2 := fun (x1 : List UInt8) (x2 x10 : Int) (x11 x34 : Bool) (m4 m8 : (Int) × ((List (List UInt8)) × ((List (Int)) × (List ((Int) × (Int)))))) => uK (run E h k c7) (s2 x1 x2 x10 x11 x34 m4 m8) (K16 k)
noncomputable abbrev l2 (k : Nat) : T2 := fun (x1 : List UInt8) (x2 x10 : Int) (x11 x34 : Bool) (m4 m8 : (Int) × ((List (List UInt8)) × ((List (Int)) × (List ((Int) × (Int)))))) => cutK (run E h k c7) (s2 x1 x2 x10 x11 x34 m4 m8) (K16 k)
abbrev s1 : (List UInt8) → Int → Int → Bool → Bool → ((Int) × ((List (List UInt8)) × ((List (Int)) × (List ((Int) × (Int)))))) → ((Int) × ((List (List UInt8)) × ((List (Int)) × (List ((Int) × (Int)))))) → ST cx := fun (x1 : List UInt8) (x2 x10 : Int) (x11 x25 : Bool) (m4 m8 : (Int) × ((List (List UInt8)) × ((List (Int)) × (List ((Int) × (Int)))))) => ({ vars := [(1, .v .str .ro x1), (2, .v (.int .i64) .ro x2), (4, .addr (.mem 4) []), (8, .addr (.mem 8) []), (10, .v (.int .i64) .ro x10), (11, .v .bool .ro x11), (25, .v .bool .ro x25)], scr := [], mems := [(4, ⟨(.agg (.pair (.int .i64) (.pair (.slice 9 .str) (.pair (.slice 3 (.int .i64)) (.slice 33 (.agg (.pair (.int .i64) (.int .i64)))))))), .ro, m4⟩), (8, ⟨(.agg (.pair (.int .i64) (.pair (.slice 9 .str) (.pair (.slice 3 (.int .i64)) (.slice 33 (.agg (.pair (.int .i64) (.int .i64)))))))), .ro, m8⟩)] } : ST cx)
noncomputable def u1 (k : Nat) : T1 := fun (x1 : List UInt8) (x2 x10 : Int) (x11 x25 : Bool) (m4 m8 : (Int) × ((List (List UInt8)) × ((List (Int)) × (List ((Int) × (Int)))))) => uK (run E h k c5) (s1 x1 x2 x10 x11 x25 m4 m8) (K12 k)
noncomputable abbrev l1 (k : Nat) : T1 := fun (x1 : List UInt8) (x2 x10 : Int) (x11 x25 : Bool) (m4 m8 : (Int) × ((List (List UInt8)) × ((List (Int)) × (List ((Int) × (Int)))))) => cutK (run E h k c5) (s1 x1 x2 x10 x11 x25 m4 m8) (K12 k)
noncomputable def u0 (k : Nat) : T0 := fun (x0 : (Int) × ((List (List UInt8)) × ((List (Int)) × (List ((Int) × (Int)))))) (x1 : List UInt8) (x2 x3 : Int) => runOf (S := cx) E h k Try.f28 [.val (.agg (.pair (.int .i64) (.pair (.slice 9 .str) (.pair (.slice 3 (.int .i64)) (.slice 33 (.agg (.pair (.int .i64) (.int .i64)))))))), .val .str, .val (.int .i64), .val (.int .i64)] (.pair (.agg (.pair (.int .i64) (.pair (.slice 9 .str) (.pair (.slice 3 (.int .i64)) (.slice 33 (.agg (.pair (.int .i64) (.int .i64)))))))) (.int .i64)) .ro (x0, x1, x2, x3, ())
def t3 : T3 := fun (x1 : List UInt8) (x2 x10 : Int) (x11 : Bool) (m4 m8 : (Int) × ((List (List UInt8)) × ((List (Int)) × (List ((Int) × (Int)))))) => 
  (bindR (s_marks_of (m4, ())) fun r3 => (iteB x11 (withinR x10 (List.length r3.1.2.2.1) fun q4 => (some (((r3.1.1, (r3.1.2.1, ((List.set r3.1.2.2.1 q4 x2), r3.1.2.2.2))), (0 : Int)), ()))) (meetK (meetK (bindR (s_InsertS r3.1.2.1 (x10, ()) ([x1] : List (List UInt8))) fun r5 => (bindR (s_InsertI r3.1.2.2.1 (x10, ()) ([x2] : List (Int))) fun r6 => (some (((r3.1.1, (r5, (r6, r3.1.2.2.2))), (0 : Int)), ())))) (meetK (meetK (bindR (s_InsertS r3.1.2.1 (x10, ()) ([x1] : List (List UInt8))) fun r7 => (bindR (s_InsertI r3.1.2.2.1 (x10, ()) ([x2] : List (Int))) fun r8 => (some (((r3.1.1, (r7, (r8, r3.1.2.2.2))), (0 : Int)), ())))) (bindR (s_InsertS r3.1.2.1 (x10, ()) ([x1] : List (List UInt8))) fun r9 => (bindR (s_InsertI r3.1.2.2.1 (x10, ()) ([x2] : List (Int))) fun r10 => (some (((r3.1.1, (r9, (r10, r3.1.2.2.2))), (0 : Int)), ()))))) (meetK (bindR (s_InsertS r3.1.2.1 (x10, ()) ([x1] : List (List UInt8))) fun r11 => (bindR (s_InsertI r3.1.2.2.1 (x10, ()) ([x2] : List (Int))) fun r12 => (some (((r3.1.1, (r11, (r12, r3.1.2.2.2))), (0 : Int)), ())))) (bindR (s_InsertS r3.1.2.1 (x10, ()) ([x1] : List (List UInt8))) fun r13 => (bindR (s_InsertI r3.1.2.2.1 (x10, ()) ([x2] : List (Int))) fun r14 => (some (((r3.1.1, (r13, (r14, r3.1.2.2.2))), (0 : Int)), ()))))))) (meetK (meetK (meetK (bindR (s_InsertS r3.1.2.1 (x10, ()) ([x1] : List (List UInt8))) fun r15 => (bindR (s_InsertI r3.1.2.2.1 (x10, ()) ([x2] : List (Int))) fun r16 => (some (((r3.1.1, (r15, (r16, r3.1.2.2.2))), (0 : Int)), ())))) (bindR (s_InsertS r3.1.2.1 (x10, ()) ([x1] : List (List UInt8))) fun r17 => (bindR (s_InsertI r3.1.2.2.1 (x10, ()) ([x2] : List (Int))) fun r18 => (some (((r3.1.1, (r17, (r18, r3.1.2.2.2))), (0 : Int)), ()))))) (bindR (s_InsertS r3.1.2.1 (x10, ()) ([x1] : List (List UInt8))) fun r19 => (bindR (s_InsertI r3.1.2.2.1 (x10, ()) ([x2] : List (Int))) fun r20 => (some (((r3.1.1, (r19, (r20, r3.1.2.2.2))), (0 : Int)), ()))))) (meetK (meetK (bindR (s_InsertS r3.1.2.1 (x10, ()) ([x1] : List (List UInt8))) fun r21 => (bindR (s_InsertI r3.1.2.2.1 (x10, ()) ([x2] : List (Int))) fun r22 => (some (((r3.1.1, (r21, (r22, r3.1.2.2.2))), (0 : Int)), ())))) (bindR (s_InsertS r3.1.2.1 (x10, ()) ([x1] : List (List UInt8))) fun r23 => (bindR (s_InsertI r3.1.2.2.1 (x10, ()) ([x2] : List (Int))) fun r24 => (some (((r3.1.1, (r23, (r24, r3.1.2.2.2))), (0 : Int)), ()))))) (bindR (s_InsertS r3.1.2.1 (x10, ()) ([x1] : List (List UInt8))) fun r25 => (bindR (s_InsertI r3.1.2.2.1 (x10, ()) ([x2] : List (Int))) fun r26 => (some (((r3.1.1, (r25, (r26, r3.1.2.2.2))), (0 : Int)), ())))))))))
theorem e3 (k : Nat) : u3 k = t3 := by kernel_rfl
theorem g3 (k : Nat) : l3 k = u3 k := funext fun _ => funext fun _ => funext fun _ => funext fun _ => funext fun _ => funext fun _ => cut_u _ _ _
def p3 (k : Nat) : T3 := t3
theorem o3 (k : Nat) : l3 k = p3 k := (Eq.trans (b := u3 k) (g3 k) (Eq.trans (b := t3) (e3 k) (by kernel_rfl)))
def t2 (f3 : T3) : T2 := fun (x1 : List UInt8) (x2 x10 : Int) (x11 x34 : Bool) (m4 m8 : (Int) × ((List (List UInt8)) × ((List (Int)) × (List ((Int) × (Int)))))) => 
  (iteB x34 (some ((((0 : Int), (([] : List (List UInt8)), (([] : List (Int)), ([] : List ((Int) × (Int)))))), (13 : Int)), ())) (f3 x1 x2 x10 x11 m4 m8))
theorem e2 (k : Nat) : u2 k = t2 (l3 k) := by kernel_rfl
theorem g2 (k : Nat) : l2 k = u2 k := funext fun _ => funext fun _ => funext fun _ => funext fun _ => funext fun _ => funext fun _ => funext fun _ => cut_u _ _ _
theorem d2 {x3 y3 : T3} (h3 : x3 = y3) : t2 x3 = t2 y3 := by subst h3; rfl
def p2 (k : Nat) : T2 := t2 (p3 k)
theorem o2 (k : Nat) : l2 k = p2 k := (Eq.trans (b := u2 k) (g2 k) (Eq.trans (b := t2 (l3 k)) (e2 k) (Eq.trans (b := t2 (p3 k)) (d2 (o3 k)) (by kernel_rfl))))
def t1 (f2 : T2) : T1 := fun (x1 : List UInt8) (x2 x10 : Int) (x11 x25 : Bool) (m4 m8 : (Int) × ((List (List UInt8)) × ((List (Int)) × (List ((Int) × (Int)))))) => 
  (iteB x25 (some ((((0 : Int), (([] : List (List UInt8)), (([] : List (Int)), ([] : List ((Int) × (Int)))))), (3 : Int)), ())) (iteB (notB x11) (f2 x1 x2 x10 x11 (decide ((32 : Int) ≤ ((List.length m4.2.1 : Nat) : Int))) m4 m8) (f2 x1 x2 x10 x11 false m4 m8)))
theorem e1 (k : Nat) : u1 k = t1 (l2 k) := by kernel_rfl
theorem g1 (k : Nat) : l1 k = u1 k := funext fun _ => funext fun _ => funext fun _ => funext fun _ => funext fun _ => funext fun _ => funext fun _ => cut_u _ _ _
theorem d1 {x2 y2 : T2} (h2 : x2 = y2) : t1 x2 = t1 y2 := by subst h2; rfl
def p1 (k : Nat) : T1 := t1 (p2 k)
theorem o1 (k : Nat) : l1 k = p1 k := (Eq.trans (b := u1 k) (g1 k) (Eq.trans (b := t1 (l2 k)) (e1 k) (Eq.trans (b := t1 (p2 k)) (d1 (o2 k)) (by kernel_rfl))))
def t0 (f1 : T1) : T0 := fun (x0 : (Int) × ((List (List UInt8)) × ((List (Int)) × (List ((Int) × (Int)))))) (x1 : List UInt8) (x2 x3 : Int) => 
  (bindR (s_slices_BinarySearch (x0.2.1, (x1, ()))) fun r1 => (bindR (s_marks_isName (x1, ())) fun r2 => (iteB (notB r2.1) (some ((((0 : Int), (([] : List (List UInt8)), (([] : List (Int)), ([] : List ((Int) × (Int)))))), (1 : Int)), ())) (iteB (decide (x2 < (0 : Int))) (f1 x1 x2 r1.1.1 r1.1.2 true x0 ((0 : Int), (([] : List (List UInt8)), (([] : List (Int)), ([] : List ((Int) × (Int))))))) (f1 x1 x2 r1.1.1 r1.1.2 (decide (x3 < x2)) x0 ((0 : Int), (([] : List (List UInt8)), (([] : List (Int)), ([] : List ((Int) × (Int)))))))))))
theorem e0 (k : Nat) : u0 k = t0 (l1 k) := by kernel_rfl
theorem d0 {x1 y1 : T1} (h1 : x1 = y1) : t0 x1 = t0 y1 := by subst h1; rfl
def p0 (k : Nat) : T0 := t0 (p1 k)
theorem o0 (k : Nat) : u0 k = p0 k := (Eq.trans (b := t0 (l1 k)) (e0 k) (Eq.trans (b := t0 (p1 k)) (d0 (o1 k)) (by kernel_rfl)))
end marks_Set
def s_marks_Set (a : ((Int) × ((List (List UInt8)) × ((List (Int)) × (List ((Int) × (Int)))))) × ((List UInt8) × ((Int) × ((Int) × (Unit))))) : Option ((((Int) × ((List (List UInt8)) × ((List (Int)) × (List ((Int) × (Int)))))) × (Int)) × (Unit)) := marks_Set.p0 (fuel) a.1 a.2.1 a.2.2.1 a.2.2.2.1
noncomputable def F_marks_Set : FSpec cx.toNm := { ps := [.val (.agg (.pair (.int .i64) (.pair (.slice 9 .str) (.pair (.slice 3 (.int .i64)) (.slice 33 (.agg (.pair (.int .i64) (.int .i64)))))))), .val .str, .val (.int .i64), .val (.int .i64)], nres := 2, rt := (.pair (.agg (.pair (.int .i64) (.pair (.slice 9 .str) (.pair (.slice 3 (.int .i64)) (.slice 33 (.agg (.pair (.int .i64) (.int .i64)))))))) (.int .i64)), rm := .ro, f := s_marks_Set }
theorem w_marks_Set (a : ((Int) × ((List (List UInt8)) × ((List (Int)) × (List ((Int) × (Int)))))) × ((List UInt8) × ((Int) × ((Int) × (Unit))))) : runOf (S := cx) marks_Set.E marks_Set.h (fuel) Try.f28 F_marks_Set.ps F_marks_Set.rt F_marks_Set.rm a = F_marks_Set.f a := Eq.trans (b := marks_Set.u0 (fuel) a.1 a.2.1 a.2.2.1 a.2.2.2.1) (by kernel_rfl) (Eq.trans (b := marks_Set.p0 (fuel) a.1 a.2.1 a.2.2.1 a.2.2.2.1) (congrFun (congrFun (congrFun (congrFun (marks_Set.o0 (fuel)) a.1) a.2.1) a.2.2.1) a.2.2.2.1) (by kernel_rfl))
theorem ok_marks_Set : FnOk Try.prog F_marks_Set 28 := fn_of (hn := marks_Set.h) (E := marks_Set.E) cxOk (tysT _) (fs_cons ok_marks_of (fs_cons ok_marks_isName (fs_cons ok_slices_BinarySearch (fs_cons ok_InsertS (fs_cons ok_InsertI fs_nil))))) follows Try.func28 (by kernel_rfl) (fun a r h => ⟨fuel, Eq.trans (w_marks_Set a) h⟩)
namespace marks_Place
noncomputable def E : Env cx := { tys := tys, fs := fsOf [(80, F_slices_BinarySearch)] }
abbrev R := Option (((Int) × (Bool)) × (Unit))
abbrev C := Exit → ST cx → R
noncomputable def b : Code := bodyC Try.f30
noncomputable def h : Hint := { vs := [0, 1, 2, 4, 5, 6, 7], nil := [], cuts := [(3, ([2, 6, 23], [2]), ([2, 6], [2])), (4, ([2, 6], [2]), ([2, 6], [2]))], ret := ([4, 5], [2]), ords := [] }
noncomputable def K0 : C := fin (S := cx) E Try.f30.results.toList (.pair (.int .i64) .bool) .ro [] []
noncomputable def c0 : Code := subC b [1]
noncomputable def K1 (k : Nat) : C := outD h c0 K0
noncomputable def K2 (k : Nat) : C := seqC E h k c0 K0
noncomputable def c1 : Code := subC b [1, 1]
noncomputable def K3 (k : Nat) : C := outD h c1 (K1 k)
noncomputable def K4 (k : Nat) : C := seqC E h k c1 (K1 k)
noncomputable def c2 : Code := subC b [1, 1, 1]
noncomputable def K5 (k : Nat) : C := outD h c2 (K3 k)
noncomputable def K6 (k : Nat) : C := seqC E h k c2 (K3 k)
noncomputable def c3 : Code := subC b [1, 1, 0, 1]
noncomputable def K7 (k : Nat) : C := outD h c3 (K6 k)
noncomputable def K8 (k : Nat) : C := seqC E h k c3 (K6 k)
noncomputable def c4 : Code := subC b [1, 1, 0, 1, 0, 1]
noncomputable def K9 (k : Nat) : C := outD h c4 (K7 k)
noncomputable def K10 (k : Nat) : C := seqC E h k c4 (K7 k)
noncomputable def c5 : Code := subC b [1, 1, 1, 1]
noncomputable def K11 (k : Nat) : C := outD h c5 (K5 k)
noncomputable def K12 (k : Nat) : C := seqC E h k c5 (K5 k)
abbrev T2 := Int → ((Int) × ((List (List UInt8)) × ((List (Int)) × (List ((Int) × (Int)))))) → R
abbrev T1 := Int → Bool → ((Int) × ((List (List UInt8)) × ((List (Int)) × (List ((Int) × (Int)))))) → R
abbrev T0 := ((Int) × ((List (List UInt8)) × ((List (Int)) × (List ((Int) × (Int)))))) → (List UInt8) → R
abbrev s2 : Int → ((Int) × ((List (List UInt8)) × ((List (Int)) × (List ((Int) × (Int)))))) → ST cx := fun (x6 : Int) (m2 : (Int) × ((List (List UInt8)) × ((List (Int)) × (List ((Int) × (Int)))))) => ({ vars := [(2, .addr (.mem 2) []), (6, .v (.int .i64) .ro x6)], scr := [], mems := [(2, ⟨(.agg (.pair (.int .i64) (.pair (.slice 9 .str) (.pair (.slice 3 (.int .i64)) (.slice 33 (.agg (.pair (.int .i64) (.int .i64)))))))), .ro, m2⟩)] } : ST cx)
noncomputable def u2 (k : Nat) : T2 := fun (x6 : Int) (m2 : (Int) × ((List (List UInt8)) × ((List (Int)) × (List ((Int) × (Int)))))) => uK (run E h k c2) (s2 x6 m2) (K5 k)
noncomputable abbrev l2 (k : Nat) : T2 := fun (x6 : Int) (m2 : (Int) × ((List (List UInt8)) × ((List (Int)) × (List ((Int) × (Int)))))) => cutK (run E h k c2) (s2 x6 m2) (K5 k)
abbrev s1 : Int → Bool → ((Int) × ((List (List UInt8)) × ((List (Int)) × (List ((Int) × (Int)))))) → ST cx := fun (x6 : Int) (x23 : Bool) (m2 : (Int) × ((List (List UInt8)) × ((List (Int)) × (List ((Int) × (Int)))))) => ({ vars := [(2, .addr (.mem 2) []), (6, .v (.int .i64) .ro x6), (23, .v .bool .ro x23)], scr := [], mems := [(2, ⟨(.agg (.pair (.int .i64) (.pair (.slice 9 .str) (.pair (.slice 3 (.int .i64)) (.slice 33 (.agg (.pair (.int .i64) (.int .i64)))))))), .ro, m2⟩)] } : ST cx)
noncomputable def u1 (k : Nat) : T1 := fun (x6 : Int) (x23 : Bool) (m2 : (Int) × ((List (List UInt8)) × ((List (Int)) × (List ((Int) × (Int)))))) => uK (run E h k c3) (s1 x6 x23 m2) (K7 k)
noncomputable abbrev l1 (k : Nat) : T1 := fun (x6 : Int) (x23 : Bool) (m2 : (Int) × ((List (List UInt8)) × ((List (Int)) × (List ((Int) × (Int)))))) => cutK (run E h k c3) (s1 x6 x23 m2) (K7 k)
noncomputable def u0 (k : Nat) : T0 := fun (x0 : (Int) × ((List (List UInt8)) × ((List (Int)) × (List ((Int) × (Int)))))) (x1 : List UInt8) => runOf (S := cx) E h k Try.f30 [.val (.agg (.pair (.int .i64) (.pair (.slice 9 .str) (.pair (.slice 3 (.int .i64)) (.slice 33 (.agg (.pair (.int .i64) (.int .i64)))))))), .val .str] (.pair (.int .i64) .bool) .ro (x0, x1, ())
def t2 : T2 := fun (x6 : Int) (m2 : (Int) × ((List (List UInt8)) × ((List (Int)) × (List ((Int) × (Int)))))) => 
  (withinR x6 (List.length m2.2.2.1) fun q2 => (some (((List.getD m2.2.2.1 q2 (0 : Int)), true), ())))
theorem e2 (k : Nat) : u2 k = t2 := by kernel_rfl
theorem g2 (k : Nat) : l2 k = u2 k := funext fun _ => funext fun _ => cut_u _ _ _
def p2 (k : Nat) : T2 := t2
theorem o2 (k : Nat) : l2 k = p2 k := (Eq.trans (b := u2 k) (g2 k) (Eq.trans (b := t2) (e2 k) (by kernel_rfl)))
def t1 (f2 : T2) : T1 := fun (x6 : Int) (x23 : Bool) (m2 : (Int) × ((List (List UInt8)) × ((List (Int)) × (List ((Int) × (Int)))))) => 
  (iteB x23 (some (((0 : Int), false), ())) (f2 x6 m2))
theorem e1 (k : Nat) : u1 k = t1 (l2 k) := by kernel_rfl
theorem g1 (k : Nat) : l1 k = u1 k := funext fun _ => funext fun _ => funext fun _ => cut_u _ _ _
theorem d1 {x2 y2 : T2} (h2 : x2 = y2) : t1 x2 = t1 y2 := by subst h2; rfl
def p1 (k : Nat) : T1 := t1 (p2 k)
theorem o1 (k : Nat) : l1 k = p1 k := (Eq.trans (b := u1 k) (g1 k) (Eq.trans (b := t1 (l2 k)) (e1 k) (Eq.trans (b := t1 (p2 k)) (d1 (o2 k)) (by kernel_rfl))))
def t0 (f1 : T1) : T0 := fun (x0 : (Int) × ((List (List UInt8)) × ((List (Int)) × (List ((Int) × (Int)))))) (x1 : List UInt8) => 
  (bindR (s_slices_BinarySearch (x0.2.1, (x1, ()))) fun r1 => (iteB (notB r1.1.2) (f1 r1.1.1 true x0) (f1 r1.1.1 (decide (((List.length x0.2.2.1 : Nat) : Int) ≤ r1.1.1)) x0)))
theorem e0 (k : Nat) : u0 k = t0 (l1 k) := by kernel_rfl
theorem d0 {x1 y1 : T1} (h1 : x1 = y1) : t0 x1 = t0 y1 := by subst h1; rfl
def p0 (k : Nat) : T0 := t0 (p1 k)
theorem o0 (k : Nat) : u0 k = p0 k := (Eq.trans (b := t0 (l1 k)) (e0 k) (Eq.trans (b := t0 (p1 k)) (d0 (o1 k)) (by kernel_rfl)))
end marks_Place
def s_marks_Place (a : ((Int) × ((List (List UInt8)) × ((List (Int)) × (List ((Int) × (Int)))))) × ((List UInt8) × (Unit))) : Option (((Int) × (Bool)) × (Unit)) := marks_Place.p0 (fuel) a.1 a.2.1
noncomputable def F_marks_Place : FSpec cx.toNm := { ps := [.val (.agg (.pair (.int .i64) (.pair (.slice 9 .str) (.pair (.slice 3 (.int .i64)) (.slice 33 (.agg (.pair (.int .i64) (.int .i64)))))))), .val .str], nres := 2, rt := (.pair (.int .i64) .bool), rm := .ro, f := s_marks_Place }
theorem w_marks_Place (a : ((Int) × ((List (List UInt8)) × ((List (Int)) × (List ((Int) × (Int)))))) × ((List UInt8) × (Unit))) : runOf (S := cx) marks_Place.E marks_Place.h (fuel) Try.f30 F_marks_Place.ps F_marks_Place.rt F_marks_Place.rm a = F_marks_Place.f a := Eq.trans (b := marks_Place.u0 (fuel) a.1 a.2.1) (by kernel_rfl) (Eq.trans (b := marks_Place.p0 (fuel) a.1 a.2.1) (congrFun (congrFun (marks_Place.o0 (fuel)) a.1) a.2.1) (by kernel_rfl))
theorem ok_marks_Place : FnOk Try.prog F_marks_Place 30 := fn_of (hn := marks_Place.h) (E := marks_Place.E) cxOk (tysT _) (fs_cons ok_slices_BinarySearch fs_nil) follows Try.func30 (by kernel_rfl) (fun a r h => ⟨fuel, Eq.trans (w_marks_Place a) h⟩)
namespace marks_isSpan
noncomputable def E : Env cx := { tys := tys, fs := fsOf [] }
abbrev R := Option ((Bool) × (Unit))
abbrev C := Exit → ST cx → R
noncomputable def b : Code := bodyC Try.f79
noncomputable def h : Hint := { vs := [0, 1, 2, 4], nil := [], cuts := [], ret := ([4], [2]), ords := [] }
noncomputable def K0 : C := fin (S := cx) E Try.f79.results.toList .bool .ro [] []
noncomputable def c0 : Code := subC b [1]
noncomputable def K1 (k : Nat) : C := outD h c0 K0
noncomputable def K2 (k : Nat) : C := seqC E h k c0 K0
noncomputable def c1 : Code := subC b [1, 1]
noncomputable def K3 (k : Nat) : C := outD h c1 (K1 k)
noncomputable def K4 (k : Nat) : C := seqC E h k c1 (K1 k)
abbrev T0 := ((Int) × (Int)) → Int → R
noncomputable def u0 (k : Nat) : T0 := fun (x0 : (Int) × (Int)) (x1 : Int) => runOf (S := cx) E h k Try.f79 [.val (.agg (.pair (.int .i64) (.int .i64))), .val (.int .i64)] .bool .ro (x0, x1, ())
def t0 : T0 := fun (x0 : (Int) × (Int)) (x1 : Int) => 
  (iteB (decide ((0 : Int) ≤ x0.1)) (iteB (decide (x0.1 ≤ x0.2)) (some ((decide (x0.2 ≤ x1)), ())) (some (false, ()))) (some (false, ())))
theorem e0 (k : Nat) : u0 k = t0 := by kernel_rfl
def p0 (k : Nat) : T0 := t0
theorem o0 (k : Nat) : u0 k = p0 k := (Eq.trans (b := t0) (e0 k) (by kernel_rfl))
end marks_isSpan
def s_marks_isSpan (a : ((Int) × (Int)) × ((Int) × (Unit))) : Option ((Bool) × (Unit)) := marks_isSpan.p0 (fuel) a.1 a.2.1
noncomputable def F_marks_isSpan : FSpec cx.toNm := { ps := [.val (.agg (.pair (.int .i64) (.int .i64))), .val (.int .i64)], nres := 1, rt := .bool, rm := .ro, f := s_marks_isSpan }
theorem w_marks_isSpan (a : ((Int) × (Int)) × ((Int) × (Unit))) : runOf (S := cx) marks_isSpan.E marks_isSpan.h (fuel) Try.f79 F_marks_isSpan.ps F_marks_isSpan.rt F_marks_isSpan.rm a = F_marks_isSpan.f a := Eq.trans (b := marks_isSpan.u0 (fuel) a.1 a.2.1) (by kernel_rfl) (Eq.trans (b := marks_isSpan.p0 (fuel) a.1 a.2.1) (congrFun (congrFun (marks_isSpan.o0 (fuel)) a.1) a.2.1) (by kernel_rfl))
theorem ok_marks_isSpan : FnOk Try.prog F_marks_isSpan 79 := fn_of (hn := marks_isSpan.h) (E := marks_isSpan.E) cxOk (tysT _) fs_nil follows Try.func79 (by kernel_rfl) (fun a r h => ⟨fuel, Eq.trans (w_marks_isSpan a) h⟩)
namespace marks_Push
noncomputable def E : Env cx := { tys := tys, fs := fsOf [(75, F_marks_of), (79, F_marks_isSpan)] }
abbrev R := Option ((((Int) × ((List (List UInt8)) × ((List (Int)) × (List ((Int) × (Int)))))) × (Int)) × (Unit))
abbrev C := Exit → ST cx → R
noncomputable def b : Code := bodyC Try.f73
noncomputable def h : Hint := { vs := [0, 1, 2, 3, 4, 8, 9, 10, 11], nil := [], cuts := [], ret := ([8, 9], [4, 8, 10, 28]), ords := [] }
noncomputable def K0 : C := fin (S := cx) E Try.f73.results.toList (.pair (.agg (.pair (.int .i64) (.pair (.slice 9 .str) (.pair (.slice 3 (.int .i64)) (.slice 33 (.agg (.pair (.int .i64) (.int .i64)))))))) (.int .i64)) .ro [] []
noncomputable def c0 : Code := subC b [1]
noncomputable def K1 (k : Nat) : C := outD h c0 K0
noncomputable def K2 (k : Nat) : C := seqC E h k c0 K0
noncomputable def c1 : Code := subC b [1, 1]
noncomputable def K3 (k : Nat) : C := outD h c1 (K1 k)
noncomputable def K4 (k : Nat) : C := seqC E h k c1 (K1 k)
noncomputable def c2 : Code := subC b [1, 1, 1]
noncomputable def K5 (k : Nat) : C := outD h c2 (K3 k)
noncomputable def K6 (k : Nat) : C := seqC E h k c2 (K3 k)
noncomputable def K7 (k : Nat) : C := blockK 0 (K6 k)
noncomputable def c3 : Code := subC b [1, 1, 0, 0, 1]
noncomputable def K8 (k : Nat) : C := outD h c3 (K7 k)
noncomputable def K9 (k : Nat) : C := seqC E h k c3 (K7 k)
noncomputable def c4 : Code := subC b [1, 1, 0, 0, 1, 0, 1]
noncomputable def K10 (k : Nat) : C := outD h c4 (K8 k)
noncomputable def K11 (k : Nat) : C := seqC E h k c4 (K8 k)
noncomputable def c5 : Code := subC b [1, 1, 0, 0, 1, 1, 1]
noncomputable def K12 (k : Nat) : C := outD h c5 (K8 k)
noncomputable def K13 (k : Nat) : C := seqC E h k c5 (K8 k)
noncomputable def c6 : Code := subC b [1, 1, 0, 0, 1, 1, 1, 0, 1]
noncomputable def K14 (k : Nat) : C := outD h c6 (K12 k)
noncomputable def K15 (k : Nat) : C := seqC E h k c6 (K12 k)
noncomputable def c7 : Code := subC b [1, 1, 1, 1]
noncomputable def K16 (k : Nat) : C := outD h c7 (K5 k)
noncomputable def K17 (k : Nat) : C := seqC E h k c7 (K5 k)
noncomputable def c8 : Code := subC b [1, 1, 1, 1, 1]
noncomputable def K18 (k : Nat) : C := outD h c8 (K16 k)
noncomputable def K19 (k : Nat) : C := seqC E h k c8 (K16 k)
noncomputable def c9 : Code := subC b [1, 1, 1, 1, 1, 1]
noncomputable def K20 (k : Nat) : C := outD h c9 (K18 k)
noncomputable def K21 (k : Nat) : C := seqC E h k c9 (K18 k)
abbrev T0 := ((Int) × ((List (List UInt8)) × ((List (Int)) × (List ((Int) × (Int)))))) → Int → Int → Int → R
noncomputable def u0 (k : Nat) : T0 := fun (x0 : (Int) × ((List (List UInt8)) × ((List (Int)) × (List ((Int) × (Int)))))) (x1 x2 x3 : Int) => runOf (S := cx) E h k Try.f73 [.val (.agg (.pair (.int .i64) (.pair (.slice 9 .str) (.pair (.slice 3 (.int .i64)) (.slice 33 (.agg (.pair (.int .i64) (.int .i64)))))))), .val (.int .i64), .val (.int .i64), .val (.int .i64)] (.pair (.agg (.pair (.int .i64) (.pair (.slice 9 .str) (.pair (.slice 3 (.int .i64)) (.slice 33 (.agg (.pair (.int .i64) (.int .i64)))))))) (.int .i64)) .ro (x0, x1, x2, x3, ())
def t0 : T0 := fun (x0 : (Int) × ((List (List UInt8)) × ((List (Int)) × (List ((Int) × (Int)))))) (x1 x2 x3 : Int) => 
  (bindR (s_marks_isSpan ((x1, x2), (x3, ()))) fun r1 => (iteB (notB r1.1) (some ((((0 : Int), (([] : List (List UInt8)), (([] : List (Int)), ([] : List ((Int) × (Int)))))), (3 : Int)), ())) (iteB (decide ((32 : Int) ≤ ((List.length x0.2.2.2 : Nat) : Int))) (some ((((0 : Int), (([] : List (List UInt8)), (([] : List (Int)), ([] : List ((Int) × (Int)))))), (13 : Int)), ())) (bindR (s_marks_of (x0, ())) fun r2 => (mustR (room r2.1.2.2.2 ([(x1, x2)] : List ((Int) × (Int)))) (some (((r2.1.1, (r2.1.2.1, (r2.1.2.2.1, (r2.1.2.2.2 ++ ([(x1, x2)] : List ((Int) × (Int))))))), (0 : Int)), ())))))))
theorem e0 (k : Nat) : u0 k = t0 := by kernel_rfl
def p0 (k : Nat) : T0 := t0
theorem o0 (k : Nat) : u0 k = p0 k := (Eq.trans (b := t0) (e0 k) (by kernel_rfl))
end marks_Push
def s_marks_Push (a : ((Int) × ((List (List UInt8)) × ((List (Int)) × (List ((Int) × (Int)))))) × ((Int) × ((Int) × ((Int) × (Unit))))) : Option ((((Int) × ((List (List UInt8)) × ((List (Int)) × (List ((Int) × (Int)))))) × (Int)) × (Unit)) := marks_Push.p0 (fuel) a.1 a.2.1 a.2.2.1 a.2.2.2.1
noncomputable def F_marks_Push : FSpec cx.toNm := { ps := [.val (.agg (.pair (.int .i64) (.pair (.slice 9 .str) (.pair (.slice 3 (.int .i64)) (.slice 33 (.agg (.pair (.int .i64) (.int .i64)))))))), .val (.int .i64), .val (.int .i64), .val (.int .i64)], nres := 2, rt := (.pair (.agg (.pair (.int .i64) (.pair (.slice 9 .str) (.pair (.slice 3 (.int .i64)) (.slice 33 (.agg (.pair (.int .i64) (.int .i64)))))))) (.int .i64)), rm := .ro, f := s_marks_Push }
theorem w_marks_Push (a : ((Int) × ((List (List UInt8)) × ((List (Int)) × (List ((Int) × (Int)))))) × ((Int) × ((Int) × ((Int) × (Unit))))) : runOf (S := cx) marks_Push.E marks_Push.h (fuel) Try.f73 F_marks_Push.ps F_marks_Push.rt F_marks_Push.rm a = F_marks_Push.f a := Eq.trans (b := marks_Push.u0 (fuel) a.1 a.2.1 a.2.2.1 a.2.2.2.1) (by kernel_rfl) (Eq.trans (b := marks_Push.p0 (fuel) a.1 a.2.1 a.2.2.1 a.2.2.2.1) (congrFun (congrFun (congrFun (congrFun (marks_Push.o0 (fuel)) a.1) a.2.1) a.2.2.1) a.2.2.2.1) (by kernel_rfl))
theorem ok_marks_Push : FnOk Try.prog F_marks_Push 73 := fn_of (hn := marks_Push.h) (E := marks_Push.E) cxOk (tysT _) (fs_cons ok_marks_of (fs_cons ok_marks_isSpan fs_nil)) follows Try.func73 (by kernel_rfl) (fun a r h => ⟨fuel, Eq.trans (w_marks_Push a) h⟩)
namespace marks_Top
noncomputable def E : Env cx := { tys := tys, fs := fsOf [] }
abbrev R := Option (((Int) × ((Int) × (Bool))) × (Unit))
abbrev C := Exit → ST cx → R
noncomputable def b : Code := bodyC Try.f74
noncomputable def h : Hint := { vs := [0, 1, 2, 3, 4, 5], nil := [], cuts := [], ret := ([2, 3, 4], [1, 5]), ords := [] }
noncomputable def K0 : C := fin (S := cx) E Try.f74.results.toList (.pair (.int .i64) (.pair (.int .i64) .bool)) .ro [] []
noncomputable def c0 : Code := subC b [1]
noncomputable def K1 (k : Nat) : C := outD h c0 K0
noncomputable def K2 (k : Nat) : C := seqC E h k c0 K0
noncomputable def c1 : Code := subC b [1, 1]
noncomputable def K3 (k : Nat) : C := outD h c1 (K1 k)
noncomputable def K4 (k : Nat) : C := seqC E h k c1 (K1 k)
noncomputable def c2 : Code := subC b [1, 0, 1]
noncomputable def K5 (k : Nat) : C := outD h c2 (K4 k)
noncomputable def K6 (k : Nat) : C := seqC E h k c2 (K4 k)
noncomputable def c3 : Code := subC b [1, 0, 1, 0, 1]
noncomputable def K7 (k : Nat) : C := outD h c3 (K5 k)
noncomputable def K8 (k : Nat) : C := seqC E h k c3 (K5 k)
noncomputable def c4 : Code := subC b [1, 1, 1]
noncomputable def K9 (k : Nat) : C := outD h c4 (K3 k)
noncomputable def K10 (k : Nat) : C := seqC E h k c4 (K3 k)
noncomputable def c5 : Code := subC b [1, 1, 1, 1]
noncomputable def K11 (k : Nat) : C := outD h c5 (K9 k)
noncomputable def K12 (k : Nat) : C := seqC E h k c5 (K9 k)
abbrev T0 := ((Int) × ((List (List UInt8)) × ((List (Int)) × (List ((Int) × (Int)))))) → R
noncomputable def u0 (k : Nat) : T0 := fun (x0 : (Int) × ((List (List UInt8)) × ((List (Int)) × (List ((Int) × (Int)))))) => runOf (S := cx) E h k Try.f74 [.val (.agg (.pair (.int .i64) (.pair (.slice 9 .str) (.pair (.slice 3 (.int .i64)) (.slice 33 (.agg (.pair (.int .i64) (.int .i64))))))))] (.pair (.int .i64) (.pair (.int .i64) .bool)) .ro (x0, ())
def t0 : T0 := fun (x0 : (Int) × ((List (List UInt8)) × ((List (Int)) × (List ((Int) × (Int)))))) => 
  (iteB (decide (((List.length x0.2.2.2 : Nat) : Int) = (0 : Int))) (some (((0 : Int), ((0 : Int), false)), ())) (withinR (w64 (((List.length x0.2.2.2 : Nat) : Int) - (1 : Int))) (List.length x0.2.2.2) fun q1 => (some (((List.getD x0.2.2.2 q1 ((0 : Int), (0 : Int))).1, ((List.getD x0.2.2.2 q1 ((0 : Int), (0 : Int))).2, true)), ()))))
theorem e0 (k : Nat) : u0 k = t0 := by kernel_rfl
def p0 (k : Nat) : T0 := t0
theorem o0 (k : Nat) : u0 k = p0 k := (Eq.trans (b := t0) (e0 k) (by kernel_rfl))
end marks_Top
def s_marks_Top (a : ((Int) × ((List (List UInt8)) × ((List (Int)) × (List ((Int) × (Int)))))) × (Unit)) : Option (((Int) × ((Int) × (Bool))) × (Unit)) := marks_Top.p0 (fuel) a.1
noncomputable def F_marks_Top : FSpec cx.toNm := { ps := [.val (.agg (.pair (.int .i64) (.pair (.slice 9 .str) (.pair (.slice 3 (.int .i64)) (.slice 33 (.agg (.pair (.int .i64) (.int .i64))))))))], nres := 3, rt := (.pair (.int .i64) (.pair (.int .i64) .bool)), rm := .ro, f := s_marks_Top }
theorem w_marks_Top (a : ((Int) × ((List (List UInt8)) × ((List (Int)) × (List ((Int) × (Int)))))) × (Unit)) : runOf (S := cx) marks_Top.E marks_Top.h (fuel) Try.f74 F_marks_Top.ps F_marks_Top.rt F_marks_Top.rm a = F_marks_Top.f a := Eq.trans (b := marks_Top.u0 (fuel) a.1) (by kernel_rfl) (Eq.trans (b := marks_Top.p0 (fuel) a.1) (congrFun (marks_Top.o0 (fuel)) a.1) (by kernel_rfl))
theorem ok_marks_Top : FnOk Try.prog F_marks_Top 74 := fn_of (hn := marks_Top.h) (E := marks_Top.E) cxOk (tysT _) fs_nil follows Try.func74 (by kernel_rfl) (fun a r h => ⟨fuel, Eq.trans (w_marks_Top a) h⟩)
namespace law25_alive
noncomputable def E : Env cx := { tys := tys, fs := fsOf [(20, F_marks_Move), (28, F_marks_Set), (30, F_marks_Place), (73, F_marks_Push), (74, F_marks_Top)] }
abbrev R := Option ((Bool) × (Unit))
abbrev C := Exit → ST cx → R
noncomputable def b : Code := bodyC Try.f17
noncomputable def h : Hint := { vs := [0, 1, 2, 3, 4, 5, 6, 7, 8, 9], nil := [], cuts := [], ret := ([0], [1, 4]), ords := [] }
noncomputable def K0 : C := fin (S := cx) E Try.f17.results.toList .bool .ro [] []
noncomputable def c0 : Code := subC b [1]
noncomputable def K1 (k : Nat) : C := outD h c0 K0
noncomputable def K2 (k : Nat) : C := seqC E h k c0 K0
noncomputable def c1 : Code := subC b [1, 1]
noncomputable def K3 (k : Nat) : C := outD h c1 (K1 k)
noncomputable def K4 (k : Nat) : C := seqC E h k c1 (K1 k)
noncomputable def c2 : Code := subC b [1, 1, 1]
noncomputable def K5 (k : Nat) : C := outD h c2 (K3 k)
noncomputable def K6 (k : Nat) : C := seqC E h k c2 (K3 k)
noncomputable def c3 : Code := subC b [1, 1, 1, 1]
noncomputable def K7 (k : Nat) : C := outD h c3 (K5 k)
noncomputable def K8 (k : Nat) : C := seqC E h k c3 (K5 k)
noncomputable def c4 : Code := subC b [1, 1, 1, 1, 1]
noncomputable def K9 (k : Nat) : C := outD h c4 (K7 k)
noncomputable def K10 (k : Nat) : C := seqC E h k c4 (K7 k)
noncomputable def c5 : Code := subC b [1, 1, 1, 1, 1, 1]
noncomputable def K11 (k : Nat) : C := outD h c5 (K9 k)
noncomputable def K12 (k : Nat) : C := seqC E h k c5 (K9 k)
noncomputable def c6 : Code := subC b [1, 1, 1, 1, 1, 1, 1]
noncomputable def K13 (k : Nat) : C := outD h c6 (K11 k)
noncomputable def K14 (k : Nat) : C := seqC E h k c6 (K11 k)
abbrev T0 := R
noncomputable def u0 (k : Nat) : T0 := runOf (S := cx) E h k Try.f17 [] .bool .ro (())
def t0 : T0 := 
  (bindR (s_marks_Set (((2 : Int), (([] : List (List UInt8)), (([] : List (Int)), ([] : List ((Int) × (Int)))))), (([97] : List UInt8), ((2 : Int), ((3 : Int), ()))))) fun r1 => (bindR (s_marks_Push (r1.1.1, ((1 : Int), ((2 : Int), ((3 : Int), ()))))) fun r2 => (bindR (s_marks_Move (r2.1.1, (([((2 : Int), ((0 : Int), ([120, 121] : List UInt8)))] : List ((Int) × ((Int) × (List UInt8)))), ()))) fun r3 => (bindR (s_marks_Place (r3.1, (([97] : List UInt8), ()))) fun r4 => (bindR (s_marks_Top (r3.1, ())) fun r5 => (iteB (decide (r1.1.2 = (0 : Int))) (iteB (decide (r2.1.2 = (0 : Int))) (iteB (decide (r3.1.1 = (4 : Int))) (iteB (decide (r4.1.1 = (2 : Int))) (iteB r4.1.2 (iteB (decide (r5.1.1 = (1 : Int))) (iteB (decide (r5.1.2.1 = (2 : Int))) (some (r5.1.2.2, ())) (some (false, ()))) (some (false, ()))) (some (false, ()))) (some (false, ()))) (some (false, ()))) (some (false, ()))) (some (false, ()))))))))
theorem e0 (k : Nat) : u0 k = t0 := by kernel_rfl
def p0 (k : Nat) : T0 := t0
theorem o0 (k : Nat) : u0 k = p0 k := (Eq.trans (b := t0) (e0 k) (by kernel_rfl))
end law25_alive
def s_law25_alive (a : Unit) : Option ((Bool) × (Unit)) := law25_alive.p0 (fuel)
noncomputable def F_law25_alive : FSpec cx.toNm := { ps := [], nres := 1, rt := .bool, rm := .ro, f := s_law25_alive }
theorem w_law25_alive (a : Unit) : runOf (S := cx) law25_alive.E law25_alive.h (fuel) Try.f17 F_law25_alive.ps F_law25_alive.rt F_law25_alive.rm a = F_law25_alive.f a := Eq.trans (b := law25_alive.u0 (fuel)) (by kernel_rfl) (Eq.trans (b := law25_alive.p0 (fuel)) (law25_alive.o0 (fuel)) (by kernel_rfl))
theorem ok_law25_alive : FnOk Try.prog F_law25_alive 17 := fn_of (hn := law25_alive.h) (E := law25_alive.E) cxOk (tysT _) (fs_cons ok_marks_Move (fs_cons ok_marks_Set (fs_cons ok_marks_Place (fs_cons ok_marks_Push (fs_cons ok_marks_Top fs_nil))))) follows Try.func17 (by kernel_rfl) (fun a r h => ⟨fuel, Eq.trans (w_law25_alive a) h⟩)
namespace law25_Great
noncomputable def E : Env cx := { tys := tys, fs := fsOf [] }
abbrev R := Option ((Bool) × (Unit))
abbrev C := Exit → ST cx → R
noncomputable def b : Code := bodyC Try.f21
noncomputable def h : Hint := { vs := [0, 1, 2, 3], nil := [], cuts := [(2, ([1, 19], [1]), ([1], [1])), (3, ([1], [1]), ([1], [1])), (4, ([1, 3], [1]), ([], [])), (8, ([], []), ([], []))], ret := ([2], [1]), ords := [] }
noncomputable def K0 : C := fin (S := cx) E Try.f21.results.toList .bool .ro [] []
noncomputable def c0 : Code := subC b [1]
noncomputable def K1 (k : Nat) : C := outD h c0 K0
noncomputable def K2 (k : Nat) : C := seqC E h k c0 K0
noncomputable def c1 : Code := subC b [1, 1]
noncomputable def K3 (k : Nat) : C := outD h c1 (K1 k)
noncomputable def K4 (k : Nat) : C := seqC E h k c1 (K1 k)
noncomputable def c2 : Code := subC b [1, 0, 1]
noncomputable def K5 (k : Nat) : C := outD h c2 (K4 k)
noncomputable def K6 (k : Nat) : C := seqC E h k c2 (K4 k)
noncomputable def c3 : Code := subC b [1, 0, 1, 0, 1]
noncomputable def K7 (k : Nat) : C := outD h c3 (K5 k)
noncomputable def K8 (k : Nat) : C := seqC E h k c3 (K5 k)
noncomputable def c4 : Code := subC b [1, 1, 1]
noncomputable def K9 (k : Nat) : C := outD h c4 (K3 k)
noncomputable def K10 (k : Nat) : C := seqC E h k c4 (K3 k)
noncomputable def c5 : Code := subC b [1, 1, 0, 1]
noncomputable def K11 (k : Nat) : C := outD h c5 (K10 k)
noncomputable def K12 (k : Nat) : C := seqC E h k c5 (K10 k)
noncomputable def K13 (k : Nat) : C := blockK 0 (K11 k)
noncomputable def c6 : Code := subC b [1, 1, 0, 1, 0, 0]
noncomputable def K14 (k n3 : Nat) : C := loopD E h k c6 (K13 k) n3
noncomputable def c7 : Code := subC b [1, 1, 0, 1, 0, 0, 1]
noncomputable def K15 (k n3 : Nat) : C := outD h c7 (K14 k n3)
noncomputable def K16 (k n3 : Nat) : C := seqC E h k c7 (K14 k n3)
noncomputable def c8 : Code := subC b [1, 1, 0, 1, 0, 0, 0, 1]
noncomputable def K17 (k n3 : Nat) : C := outD h c8 (K16 k n3)
noncomputable def K18 (k n3 : Nat) : C := seqC E h k c8 (K16 k n3)
noncomputable def c9 : Code := subC b [1, 1, 0, 1, 0, 0, 1, 1]
noncomputable def K19 (k n3 : Nat) : C := outD h c9 (K15 k n3)
noncomputable def K20 (k n3 : Nat) : C := seqC E h k c9 (K15 k n3)
noncomputable def K21 (k n3 : Nat) : C := blockK 1 (K20 k n3)
noncomputable def c10 : Code := subC b [1, 1, 0, 1, 0, 0, 1, 0, 0, 1]
noncomputable def K22 (k n3 : Nat) : C := outD h c10 (K21 k n3)
noncomputable def K23 (k n3 : Nat) : C := seqC E h k c10 (K21 k n3)
noncomputable def c11 : Code := subC b [1, 1, 0, 1, 0, 0, 1, 0, 0, 1, 0, 1]
noncomputable def K24 (k n3 : Nat) : C := outD h c11 (K22 k n3)
noncomputable def K25 (k n3 : Nat) : C := seqC E h k c11 (K22 k n3)
noncomputable def c12 : Code := subC b [1, 1, 1, 1]
noncomputable def K26 (k : Nat) : C := outD h c12 (K9 k)
noncomputable def K27 (k : Nat) : C := seqC E h k c12 (K9 k)
abbrev T4 := R
abbrev T3 := Int → ((Int) × ((List (List UInt8)) × ((List (Int)) × (List ((Int) × (Int)))))) → R
abbrev T2 := ((Int) × ((List (List UInt8)) × ((List (Int)) × (List ((Int) × (Int)))))) → R
abbrev T1 := Bool → ((Int) × ((List (List UInt8)) × ((List (Int)) × (List ((Int) × (Int)))))) → R
abbrev T0 := ((Int) × ((List (List UInt8)) × ((List (Int)) × (List ((Int) × (Int)))))) → R
abbrev s4 : ST cx := ({ vars := [], scr := [], mems := [] } : ST cx)
noncomputable def u4 (k : Nat) : T4 := uK (run E h k c4) s4 (K9 k)
noncomputable abbrev l4 (k : Nat) : T4 := cutK (run E h k c4) s4 (K9 k)
abbrev s3 : Int → ((Int) × ((List (List UInt8)) × ((List (Int)) × (List ((Int) × (Int)))))) → ST cx := fun (x3 : Int) (m1 : (Int) × ((List (List UInt8)) × ((List (Int)) × (List ((Int) × (Int)))))) => ({ vars := [(1, .addr (.mem 1) []), (3, .v (.int .i64) .ro x3)], scr := [], mems := [(1, ⟨(.agg (.pair (.int .i64) (.pair (.slice 9 .str) (.pair (.slice 3 (.int .i64)) (.slice 33 (.agg (.pair (.int .i64) (.int .i64)))))))), .ro, m1⟩)] } : ST cx)
noncomputable def u3 (k n3 : Nat) : T3 := fun (x3 : Int) (m1 : (Int) × ((List (List UInt8)) × ((List (Int)) × (List ((Int) × (Int)))))) => uK (loopL E h k c6 (K13 k) n3) (s3 x3 m1) ()
noncomputable abbrev l3 (k n3 : Nat) : T3 := fun (x3 : Int) (m1 : (Int) × ((List (List UInt8)) × ((List (Int)) × (List ((Int) × (Int)))))) => cutK (loopL E h k c6 (K13 k) n3) (s3 x3 m1) ()
abbrev s2 : ((Int) × ((List (List UInt8)) × ((List (Int)) × (List ((Int) × (Int)))))) → ST cx := fun (m1 : (Int) × ((List (List UInt8)) × ((List (Int)) × (List ((Int) × (Int)))))) => ({ vars := [(1, .addr (.mem 1) [])], scr := [], mems := [(1, ⟨(.agg (.pair (.int .i64) (.pair (.slice 9 .str) (.pair (.slice 3 (.int .i64)) (.slice 33 (.agg (.pair (.int .i64) (.int .i64)))))))), .ro, m1⟩)] } : ST cx)
noncomputable def u2 (k : Nat) : T2 := fun (m1 : (Int) × ((List (List UInt8)) × ((List (Int)) × (List ((Int) × (Int)))))) => uK (run E h k c1) (s2 m1) (K3 k)
noncomputable abbrev l2 (k : Nat) : T2 := fun (m1 : (Int) × ((List (List UInt8)) × ((List (Int)) × (List ((Int) × (Int)))))) => cutK (run E h k c1) (s2 m1) (K3 k)
abbrev s1 : Bool → ((Int) × ((List (List UInt8)) × ((List (Int)) × (List ((Int) × (Int)))))) → ST cx := fun (x19 : Bool) (m1 : (Int) × ((List (List UInt8)) × ((List (Int)) × (List ((Int) × (Int)))))) => ({ vars := [(1, .addr (.mem 1) []), (19, .v .bool .ro x19)], scr := [], mems := [(1, ⟨(.agg (.pair (.int .i64) (.pair (.slice 9 .str) (.pair (.slice 3 (.int .i64)) (.slice 33 (.agg (.pair (.int .i64) (.int .i64)))))))), .ro, m1⟩)] } : ST cx)
noncomputable def u1 (k : Nat) : T1 := fun (x19 : Bool) (m1 : (Int) × ((List (List UInt8)) × ((List (Int)) × (List ((Int) × (Int)))))) => uK (run E h k c2) (s1 x19 m1) (K5 k)
noncomputable abbrev l1 (k : Nat) : T1 := fun (x19 : Bool) (m1 : (Int) × ((List (List UInt8)) × ((List (Int)) × (List ((Int) × (Int)))))) => cutK (run E h k c2) (s1 x19 m1) (K5 k)
noncomputable def u0 (k : Nat) : T0 := fun (x0 : (Int) × ((List (List UInt8)) × ((List (Int)) × (List ((Int) × (Int)))))) => runOf (S := cx) E h k Try.f21 [.val (.agg (.pair (.int .i64) (.pair (.slice 9 .str) (.pair (.slice 3 (.int .i64)) (.slice 33 (.agg (.pair (.int .i64) (.int .i64))))))))] .bool .ro (x0, ())
def t4 : T4 := 
  (some (false, ()))
theorem e4 (k : Nat) : u4 k = t4 := by kernel_rfl
theorem g4 (k : Nat) : l4 k = u4 k := cut_u _ _ _
def p4 (k : Nat) : T4 := t4
theorem o4 (k : Nat) : l4 k = p4 k := (Eq.trans (b := u4 k) (g4 k) (Eq.trans (b := t4) (e4 k) (by kernel_rfl)))
def t3 (f3 : T3) (f4 : T4) : T3 := fun (x3 : Int) (m1 : (Int) × ((List (List UInt8)) × ((List (Int)) × (List ((Int) × (Int)))))) => 
  (iteB (decide (x3 < ((List.length m1.2.1 : Nat) : Int))) (withinR x3 (List.length m1.2.1) fun q1 => (iteB (decide ((100 : Int) < ((List.length (List.getD m1.2.1 q1 ([] : List UInt8)) : Nat) : Int))) (some (true, ())) (f3 (w64 (x3 + (1 : Int))) m1))) f4)
theorem e3 (k n3 : Nat) : u3 k (n3 + 1) = t3 (l3 k n3) (l4 k) := by kernel_rfl
theorem g3 (k n3 : Nat) : l3 k (n3 + 1) = u3 k (n3 + 1) := funext fun _ => funext fun _ => cut_u _ _ _
theorem d3 {x3 y3 : T3} {x4 y4 : T4} (h3 : x3 = y3) (h4 : x4 = y4) : t3 x3 x4 = t3 y3 y4 := by subst h3; subst h4; rfl
def p3 (k : Nat) : Nat → T3
  | 0 => fun _ _ => none
  | n3 + 1 => t3 (p3 k n3) (p4 k)
theorem o3 (k : Nat) : ∀ n3, l3 k n3 = p3 k n3 := by
  intro n3
  induction n3 with
  | zero => kernel_rfl
  | succ n3 ih => exact (Eq.trans (b := u3 k (n3 + 1)) (g3 k n3) (Eq.trans (b := t3 (l3 k n3) (l4 k)) (e3 k n3) (Eq.trans (b := t3 (p3 k n3) (p4 k)) (d3 ih (o4 k)) (by kernel_rfl))))
def t2 (f3 : T3) : T2 := fun (m1 : (Int) × ((List (List UInt8)) × ((List (Int)) × (List ((Int) × (Int)))))) => 
  (f3 (0 : Int) m1)
theorem e2 (k : Nat) : u2 k = t2 (l3 k k) := by kernel_rfl
theorem g2 (k : Nat) : l2 k = u2 k := funext fun _ => cut_u _ _ _
theorem d2 {x3 y3 : T3} (h3 : x3 = y3) : t2 x3 = t2 y3 := by subst h3; rfl
def p2 (k : Nat) : T2 := t2 (p3 k k)
theorem o2 (k : Nat) : l2 k = p2 k := (Eq.trans (b := u2 k) (g2 k) (Eq.trans (b := t2 (l3 k k)) (e2 k) (Eq.trans (b := t2 (p3 k k)) (d2 (o3 k k)) (by kernel_rfl))))
def t1 (f2 : T2) : T1 := fun (x19 : Bool) (m1 : (Int) × ((List (List UInt8)) × ((List (Int)) × (List ((Int) × (Int)))))) => 
  (iteB x19 (some (true, ())) (f2 m1))
theorem e1 (k : Nat) : u1 k = t1 (l2 k) := by kernel_rfl
theorem g1 (k : Nat) : l1 k = u1 k := funext fun _ => funext fun _ => cut_u _ _ _
theorem d1 {x2 y2 : T2} (h2 : x2 = y2) : t1 x2 = t1 y2 := by subst h2; rfl
def p1 (k : Nat) : T1 := t1 (p2 k)
theorem o1 (k : Nat) : l1 k = p1 k := (Eq.trans (b := u1 k) (g1 k) (Eq.trans (b := t1 (l2 k)) (e1 k) (Eq.trans (b := t1 (p2 k)) (d1 (o2 k)) (by kernel_rfl))))
def t0 (f1 : T1) : T0 := fun (x0 : (Int) × ((List (List UInt8)) × ((List (Int)) × (List ((Int) × (Int)))))) => 
  (iteB (decide ((60 : Int) < ((List.length x0.2.1 : Nat) : Int))) (f1 true x0) (iteB (decide ((60 : Int) < ((List.length x0.2.2.1 : Nat) : Int))) (f1 true x0) (f1 (decide ((60 : Int) < ((List.length x0.2.2.2 : Nat) : Int))) x0)))
theorem e0 (k : Nat) : u0 k = t0 (l1 k) := by kernel_rfl
theorem d0 {x1 y1 : T1} (h1 : x1 = y1) : t0 x1 = t0 y1 := by subst h1; rfl
def p0 (k : Nat) : T0 := t0 (p1 k)
theorem o0 (k : Nat) : u0 k = p0 k := (Eq.trans (b := t0 (l1 k)) (e0 k) (Eq.trans (b := t0 (p1 k)) (d0 (o1 k)) (by kernel_rfl)))
end law25_Great
def s_law25_Great (a : ((Int) × ((List (List UInt8)) × ((List (Int)) × (List ((Int) × (Int)))))) × (Unit)) : Option ((Bool) × (Unit)) := law25_Great.p0 (fuel) a.1
noncomputable def F_law25_Great : FSpec cx.toNm := { ps := [.val (.agg (.pair (.int .i64) (.pair (.slice 9 .str) (.pair (.slice 3 (.int .i64)) (.slice 33 (.agg (.pair (.int .i64) (.int .i64))))))))], nres := 1, rt := .bool, rm := .ro, f := s_law25_Great }
theorem w_law25_Great (a : ((Int) × ((List (List UInt8)) × ((List (Int)) × (List ((Int) × (Int)))))) × (Unit)) : runOf (S := cx) law25_Great.E law25_Great.h (fuel) Try.f21 F_law25_Great.ps F_law25_Great.rt F_law25_Great.rm a = F_law25_Great.f a := Eq.trans (b := law25_Great.u0 (fuel) a.1) (by kernel_rfl) (Eq.trans (b := law25_Great.p0 (fuel) a.1) (congrFun (law25_Great.o0 (fuel)) a.1) (by kernel_rfl))
theorem ok_law25_Great : FnOk Try.prog F_law25_Great 21 := fn_of (hn := law25_Great.h) (E := law25_Great.E) cxOk (tysT _) fs_nil follows Try.func21 (by kernel_rfl) (fun a r h => ⟨fuel, Eq.trans (w_law25_Great a) h⟩)
namespace marks_Right_1
noncomputable def E : Env cx := { tys := tys, fs := fsOf [(79, F_marks_isSpan)] }
abbrev R := Option ((Bool) × (Unit))
abbrev C := Exit → ST cx → R
noncomputable def b : Code := bodyC Try.f78
noncomputable def h : Hint := { vs := [0, 1, 2, 3], nil := [], cuts := [], ret := ([3], [2]), ords := [] }
noncomputable def K0 : C := fin (S := cx) E Try.f78.results.toList .bool .ro [] []
noncomputable def c0 : Code := subC b [1]
noncomputable def K1 (k : Nat) : C := outD h c0 K0
noncomputable def K2 (k : Nat) : C := seqC E h k c0 K0
noncomputable def c1 : Code := subC b [1, 1]
noncomputable def K3 (k : Nat) : C := outD h c1 (K1 k)
noncomputable def K4 (k : Nat) : C := seqC E h k c1 (K1 k)
abbrev T0 := ((Int) × (Int)) → Int → R
noncomputable def u0 (k : Nat) : T0 := fun (x0 : (Int) × (Int)) (x1 : Int) => runOf (S := cx) E h k Try.f78 [.val (.agg (.pair (.int .i64) (.int .i64))), .val (.box (.int .i64))] .bool .ro (x0, x1, ())
def t0 : T0 := fun (x0 : (Int) × (Int)) (x1 : Int) => 
  (bindR (s_marks_isSpan (x0, (x1, ()))) fun r1 => (some ((notB r1.1), ())))
theorem e0 (k : Nat) : u0 k = t0 := by kernel_rfl
def p0 (k : Nat) : T0 := t0
theorem o0 (k : Nat) : u0 k = p0 k := (Eq.trans (b := t0) (e0 k) (by kernel_rfl))
end marks_Right_1
def s_marks_Right_1 (a : ((Int) × (Int)) × ((Int) × (Unit))) : Option ((Bool) × (Unit)) := marks_Right_1.p0 (fuel) a.1 a.2.1
noncomputable def F_marks_Right_1 : FSpec cx.toNm := { ps := [.val (.agg (.pair (.int .i64) (.int .i64))), .val (.box (.int .i64))], nres := 1, rt := .bool, rm := .ro, f := s_marks_Right_1 }
theorem w_marks_Right_1 (a : ((Int) × (Int)) × ((Int) × (Unit))) : runOf (S := cx) marks_Right_1.E marks_Right_1.h (fuel) Try.f78 F_marks_Right_1.ps F_marks_Right_1.rt F_marks_Right_1.rm a = F_marks_Right_1.f a := Eq.trans (b := marks_Right_1.u0 (fuel) a.1 a.2.1) (by kernel_rfl) (Eq.trans (b := marks_Right_1.p0 (fuel) a.1 a.2.1) (congrFun (congrFun (marks_Right_1.o0 (fuel)) a.1) a.2.1) (by kernel_rfl))
theorem ok_marks_Right_1 : FnOk Try.prog F_marks_Right_1 78 := fn_of (hn := marks_Right_1.h) (E := marks_Right_1.E) cxOk (tysT _) (fs_cons ok_marks_isSpan fs_nil) follows Try.func78 (by kernel_rfl) (fun a r h => ⟨fuel, Eq.trans (w_marks_Right_1 a) h⟩)
namespace slices_IndexFunc_l78
noncomputable def E : Env cx := { tys := tys, fs := fsOf [(78, F_marks_Right_1)] }
abbrev R := Option ((Int) × (Unit))
abbrev C := Exit → ST cx → R
noncomputable def b : Code := bodyC Try.f115
noncomputable def h : Hint := { vs := [0, 1, 4, 5, 7, 8], nil := [], cuts := [(2, ([0, 1, 7, 8], []), ([], [])), (7, ([], []), ([], []))], ret := ([4], []), ords := [] }
noncomputable def K0 : C := fin (S := cx) E Try.f115.results.toList (.int .i64) .ro [] []
noncomputable def c0 : Code := subC b [1]
noncomputable def K1 (k : Nat) : C := outD h c0 K0
noncomputable def K2 (k : Nat) : C := seqC E h k c0 K0
noncomputable def c1 : Code := subC b [1, 1]
noncomputable def K3 (k : Nat) : C := outD h c1 (K1 k)
noncomputable def K4 (k : Nat) : C := seqC E h k c1 (K1 k)
noncomputable def c2 : Code := subC b [1, 0, 1]
noncomputable def K5 (k : Nat) : C := outD h c2 (K4 k)
noncomputable def K6 (k : Nat) : C := seqC E h k c2 (K4 k)
noncomputable def K7 (k : Nat) : C := blockK 0 (K5 k)
noncomputable def c3 : Code := subC b [1, 0, 1, 0, 0]
noncomputable def K8 (k n1 : Nat) : C := loopD E h k c3 (K7 k) n1
noncomputable def c4 : Code := subC b [1, 0, 1, 0, 0, 1]
noncomputable def K9 (k n1 : Nat) : C := outD h c4 (K8 k n1)
noncomputable def K10 (k n1 : Nat) : C := seqC E h k c4 (K8 k n1)
noncomputable def c5 : Code := subC b [1, 0, 1, 0, 0, 1, 1]
noncomputable def K11 (k n1 : Nat) : C := outD h c5 (K9 k n1)
noncomputable def K12 (k n1 : Nat) : C := seqC E h k c5 (K9 k n1)
noncomputable def c6 : Code := subC b [1, 0, 1, 0, 0, 1, 1, 1]
noncomputable def K13 (k n1 : Nat) : C := outD h c6 (K11 k n1)
noncomputable def K14 (k n1 : Nat) : C := seqC E h k c6 (K11 k n1)
noncomputable def K15 (k n1 : Nat) : C := blockK 1 (K14 k n1)
noncomputable def c7 : Code := subC b [1, 0, 1, 0, 0, 1, 1, 0, 0, 1]
noncomputable def K16 (k n1 : Nat) : C := outD h c7 (K15 k n1)
noncomputable def K17 (k n1 : Nat) : C := seqC E h k c7 (K15 k n1)
noncomputable def c8 : Code := subC b [1, 0, 1, 0, 0, 1, 1, 0, 0, 1, 1]
noncomputable def K18 (k n1 : Nat) : C := outD h c8 (K16 k n1)
noncomputable def K19 (k n1 : Nat) : C := seqC E h k c8 (K16 k n1)
noncomputable def c9 : Code := subC b [1, 0, 1, 0, 0, 1, 1, 0, 0, 1, 1, 0, 1]
noncomputable def K20 (k n1 : Nat) : C := outD h c9 (K18 k n1)
noncomputable def K21 (k n1 : Nat) : C := seqC E h k c9 (K18 k n1)
noncomputable def c10 : Code := subC b [1, 1, 1]
noncomputable def K22 (k : Nat) : C := outD h c10 (K3 k)
noncomputable def K23 (k : Nat) : C := seqC E h k c10 (K3 k)
abbrev T2 := R
abbrev T1 := (List ((Int) × (Int))) → ((Int) × (Unit)) → Int → Int → R
abbrev T0 := (List ((Int) × (Int))) → ((Int) × (Unit)) → R
abbrev s2 : ST cx := ({ vars := [], scr := [], mems := [] } : ST cx)
noncomputable def u2 (k : Nat) : T2 := uK (run E h k c1) s2 (K3 k)
noncomputable abbrev l2 (k : Nat) : T2 := cutK (run E h k c1) s2 (K3 k)
abbrev s1 : (List ((Int) × (Int))) → ((Int) × (Unit)) → Int → Int → ST cx := fun (x0 : List ((Int) × (Int))) (x1 : (Int) × (Unit)) (x7 x8 : Int) => ({ vars := [(0, .v (.slice 33 (.agg (.pair (.int .i64) (.int .i64)))) .ro x0), (1, .v (.clo 78 (.pair (.box (.int .i64)) .unit)) .ro x1), (7, .v (.int .i64) .ro x7), (8, .v (.int .i64) .ro x8)], scr := [], mems := [] } : ST cx)
noncomputable def u1 (k n1 : Nat) : T1 := fun (x0 : List ((Int) × (Int))) (x1 : (Int) × (Unit)) (x7 x8 : Int) => uK (loopL E h k c3 (K7 k) n1) (s1 x0 x1 x7 x8) ()
noncomputable abbrev l1 (k n1 : Nat) : T1 := fun (x0 : List ((Int) × (Int))) (x1 : (Int) × (Unit)) (x7 x8 : Int) => cutK (loopL E h k c3 (K7 k) n1) (s1 x0 x1 x7 x8) ()
noncomputable def u0 (k : Nat) : T0 := fun (x0 : List ((Int) × (Int))) (x1 : (Int) × (Unit)) => runOf (S := cx) E h k Try.f115 [.val (.slice 33 (.agg (.pair (.int .i64) (.int .i64)))), .val (.clo 78 (.pair (.box (.int .i64)) .unit))] (.int .i64) .ro (x0, x1, ())
def t2 : T2 := 
  (some ((-1 : Int), ()))
theorem e2 (k : Nat) : u2 k = t2 := by kernel_rfl
theorem g2 (k : Nat) : l2 k = u2 k := cut_u _ _ _
def p2 (k : Nat) : T2 := t2
theorem o2 (k : Nat) : l2 k = p2 k := (Eq.trans (b := u2 k) (g2 k) (Eq.trans (b := t2) (e2 k) (by kernel_rfl)))
def t1 (f1 : T1) (f2 : T2) : T1 := fun (x0 : List ((Int) × (Int))) (x1 : (Int) × (Unit)) (x7 x8 : Int) => 
  (iteB (decide (x8 < x7)) (withinR x8 (List.length x0) fun q1 => (bindR (s_marks_Right_1 ((List.getD x0 q1 ((0 : Int), (0 : Int))), (x1.1, ()))) fun r2 => (iteB r2.1 (some (x8, ())) (f1 x0 x1 x7 (w64 (x8 + (1 : Int))))))) f2)
theorem e1 (k n1 : Nat) : u1 k (n1 + 1) = t1 (l1 k n1) (l2 k) := by kernel_rfl
theorem g1 (k n1 : Nat) : l1 k (n1 + 1) = u1 k (n1 + 1) := funext fun _ => funext fun _ => funext fun _ => funext fun _ => cut_u _ _ _
theorem d1 {x1 y1 : T1} {x2 y2 : T2} (h1 : x1 = y1) (h2 : x2 = y2) : t1 x1 x2 = t1 y1 y2 := by subst h1; subst h2; rfl
def p1 (k : Nat) : Nat → T1
  | 0 => fun _ _ _ _ => none
  | n1 + 1 => t1 (p1 k n1) (p2 k)
theorem o1 (k : Nat) : ∀ n1, l1 k n1 = p1 k n1 := by
  intro n1
  induction n1 with
  | zero => kernel_rfl
  | succ n1 ih => exact (Eq.trans (b := u1 k (n1 + 1)) (g1 k n1) (Eq.trans (b := t1 (l1 k n1) (l2 k)) (e1 k n1) (Eq.trans (b := t1 (p1 k n1) (p2 k)) (d1 ih (o2 k)) (by kernel_rfl))))
def t0 (f1 : T1) : T0 := fun (x0 : List ((Int) × (Int))) (x1 : (Int) × (Unit)) => 
  (f1 x0 x1 ((List.length x0 : Nat) : Int) (0 : Int))
theorem e0 (k : Nat) : u0 k = t0 (l1 k k) := by kernel_rfl
theorem d0 {x1 y1 : T1} (h1 : x1 = y1) : t0 x1 = t0 y1 := by subst h1; rfl
def p0 (k : Nat) : T0 := t0 (p1 k k)
theorem o0 (k : Nat) : u0 k = p0 k := (Eq.trans (b := t0 (l1 k k)) (e0 k) (Eq.trans (b := t0 (p1 k k)) (d0 (o1 k k)) (by kernel_rfl)))
end slices_IndexFunc_l78
def s_slices_IndexFunc_l78 (a : (List ((Int) × (Int))) × (((Int) × (Unit)) × (Unit))) : Option ((Int) × (Unit)) := slices_IndexFunc_l78.p0 (fuel) a.1 a.2.1
noncomputable def F_slices_IndexFunc_l78 : FSpec cx.toNm := { ps := [.val (.slice 33 (.agg (.pair (.int .i64) (.int .i64)))), .val (.clo 78 (.pair (.box (.int .i64)) .unit))], nres := 1, rt := (.int .i64), rm := .ro, f := s_slices_IndexFunc_l78 }
theorem w_slices_IndexFunc_l78 (a : (List ((Int) × (Int))) × (((Int) × (Unit)) × (Unit))) : runOf (S := cx) slices_IndexFunc_l78.E slices_IndexFunc_l78.h (fuel) Try.f115 F_slices_IndexFunc_l78.ps F_slices_IndexFunc_l78.rt F_slices_IndexFunc_l78.rm a = F_slices_IndexFunc_l78.f a := Eq.trans (b := slices_IndexFunc_l78.u0 (fuel) a.1 a.2.1) (by kernel_rfl) (Eq.trans (b := slices_IndexFunc_l78.p0 (fuel) a.1 a.2.1) (congrFun (congrFun (slices_IndexFunc_l78.o0 (fuel)) a.1) a.2.1) (by kernel_rfl))
theorem ok_slices_IndexFunc_l78 : FnOk Try.prog F_slices_IndexFunc_l78 115 := fn_of (hn := slices_IndexFunc_l78.h) (E := slices_IndexFunc_l78.E) cxOk (tysT _) (fs_cons ok_marks_Right_1 fs_nil) follows Try.func115 (by kernel_rfl) (fun a r h => ⟨fuel, Eq.trans (w_slices_IndexFunc_l78 a) h⟩)
namespace slices_ContainsFunc_l78
noncomputable def E : Env cx := { tys := tys, fs := fsOf [(115, F_slices_IndexFunc_l78)] }
abbrev R := Option ((Bool) × (Unit))
abbrev C := Exit → ST cx → R
noncomputable def b : Code := bodyC Try.f77
noncomputable def h : Hint := { vs := [0, 1, 4], nil := [], cuts := [], ret := ([4], []), ords := [] }
noncomputable def K0 : C := fin (S := cx) E Try.f77.results.toList .bool .ro [] []
noncomputable def c0 : Code := subC b [1]
noncomputable def K1 (k : Nat) : C := outD h c0 K0
noncomputable def K2 (k : Nat) : C := seqC E h k c0 K0
noncomputable def c1 : Code := subC b [1, 1]
noncomputable def K3 (k : Nat) : C := outD h c1 (K1 k)
noncomputable def K4 (k : Nat) : C := seqC E h k c1 (K1 k)
abbrev T0 := (List ((Int) × (Int))) → ((Int) × (Unit)) → R
noncomputable def u0 (k : Nat) : T0 := fun (x0 : List ((Int) × (Int))) (x1 : (Int) × (Unit)) => runOf (S := cx) E h k Try.f77 [.val (.slice 33 (.agg (.pair (.int .i64) (.int .i64)))), .val (.clo 78 (.pair (.box (.int .i64)) .unit))] .bool .ro (x0, x1, ())
def t0 : T0 := fun (x0 : List ((Int) × (Int))) (x1 : (Int) × (Unit)) => 
  (bindR (s_slices_IndexFunc_l78 (x0, (x1, ()))) fun r1 => (some ((decide ((0 : Int) ≤ r1.1)), ())))
theorem e0 (k : Nat) : u0 k = t0 := by kernel_rfl
def p0 (k : Nat) : T0 := t0
theorem o0 (k : Nat) : u0 k = p0 k := (Eq.trans (b := t0) (e0 k) (by kernel_rfl))
end slices_ContainsFunc_l78
def s_slices_ContainsFunc_l78 (a : (List ((Int) × (Int))) × (((Int) × (Unit)) × (Unit))) : Option ((Bool) × (Unit)) := slices_ContainsFunc_l78.p0 (fuel) a.1 a.2.1
noncomputable def F_slices_ContainsFunc_l78 : FSpec cx.toNm := { ps := [.val (.slice 33 (.agg (.pair (.int .i64) (.int .i64)))), .val (.clo 78 (.pair (.box (.int .i64)) .unit))], nres := 1, rt := .bool, rm := .ro, f := s_slices_ContainsFunc_l78 }
theorem w_slices_ContainsFunc_l78 (a : (List ((Int) × (Int))) × (((Int) × (Unit)) × (Unit))) : runOf (S := cx) slices_ContainsFunc_l78.E slices_ContainsFunc_l78.h (fuel) Try.f77 F_slices_ContainsFunc_l78.ps F_slices_ContainsFunc_l78.rt F_slices_ContainsFunc_l78.rm a = F_slices_ContainsFunc_l78.f a := Eq.trans (b := slices_ContainsFunc_l78.u0 (fuel) a.1 a.2.1) (by kernel_rfl) (Eq.trans (b := slices_ContainsFunc_l78.p0 (fuel) a.1 a.2.1) (congrFun (congrFun (slices_ContainsFunc_l78.o0 (fuel)) a.1) a.2.1) (by kernel_rfl))
theorem ok_slices_ContainsFunc_l78 : FnOk Try.prog F_slices_ContainsFunc_l78 77 := fn_of (hn := slices_ContainsFunc_l78.h) (E := slices_ContainsFunc_l78.E) cxOk (tysT _) (fs_cons ok_slices_IndexFunc_l78 fs_nil) follows Try.func77 (by kernel_rfl) (fun a r h => ⟨fuel, Eq.trans (w_slices_ContainsFunc_l78 a) h⟩)
namespace marks_Right
noncomputable def E : Env cx := { tys := tys, fs := fsOf [(76, F_marks_isName), (77, F_slices_ContainsFunc_l78)] }
abbrev R := Option ((Bool) × (Unit))
abbrev C := Exit → ST cx → R
noncomputable def b : Code := bodyC Try.f22
noncomputable def h : Hint := { vs := [0, 1, 2, 3, 4, 5, 6, 38, 39, 40], nil := [], cuts := [(2, ([2, 3, 36], [2, 3]), ([2, 3], [2, 3])), (3, ([2, 3], [2, 3]), ([2, 3], [2, 3])), (4, ([2, 3, 38, 39, 40], [2, 3]), ([2, 3], [2, 3])), (7, ([2, 3, 38, 39, 40, 78], [2, 3]), ([2, 3, 38, 39, 40], [2, 3])), (8, ([2, 3, 38, 39, 40], [2, 3]), ([2, 3, 38, 39, 40], [2, 3])), (9, ([2, 3], [2, 3]), ([2, 3], [2, 3]))], ret := ([4], [2, 3]), ords := [] }
noncomputable def K0 : C := fin (S := cx) E Try.f22.results.toList .bool .ro [] []
noncomputable def c0 : Code := subC b [1]
noncomputable def K1 (k : Nat) : C := outD h c0 K0
noncomputable def K2 (k : Nat) : C := seqC E h k c0 K0
noncomputable def c1 : Code := subC b [1, 1]
noncomputable def K3 (k : Nat) : C := outD h c1 (K1 k)
noncomputable def K4 (k : Nat) : C := seqC E h k c1 (K1 k)
noncomputable def c2 : Code := subC b [1, 0, 1]
noncomputable def K5 (k : Nat) : C := outD h c2 (K4 k)
noncomputable def K6 (k : Nat) : C := seqC E h k c2 (K4 k)
noncomputable def c3 : Code := subC b [1, 0, 1, 0, 1]
noncomputable def K7 (k : Nat) : C := outD h c3 (K5 k)
noncomputable def K8 (k : Nat) : C := seqC E h k c3 (K5 k)
noncomputable def c4 : Code := subC b [1, 1, 1]
noncomputable def K9 (k : Nat) : C := outD h c4 (K3 k)
noncomputable def K10 (k : Nat) : C := seqC E h k c4 (K3 k)
noncomputable def c5 : Code := subC b [1, 1, 0, 1]
noncomputable def K11 (k : Nat) : C := outD h c5 (K10 k)
noncomputable def K12 (k : Nat) : C := seqC E h k c5 (K10 k)
noncomputable def K13 (k : Nat) : C := blockK 0 (K11 k)
noncomputable def c6 : Code := subC b [1, 1, 0, 1, 0, 0]
noncomputable def K14 (k n3 : Nat) : C := loopD E h k c6 (K13 k) n3
noncomputable def c7 : Code := subC b [1, 1, 0, 1, 0, 0, 1]
noncomputable def K15 (k n3 : Nat) : C := outD h c7 (K14 k n3)
noncomputable def K16 (k n3 : Nat) : C := seqC E h k c7 (K14 k n3)
noncomputable def c8 : Code := subC b [1, 1, 0, 1, 0, 0, 1, 1]
noncomputable def K17 (k n3 : Nat) : C := outD h c8 (K15 k n3)
noncomputable def K18 (k n3 : Nat) : C := seqC E h k c8 (K15 k n3)
noncomputable def c9 : Code := subC b [1, 1, 0, 1, 0, 0, 1, 1, 1]
noncomputable def K19 (k n3 : Nat) : C := outD h c9 (K17 k n3)
noncomputable def K20 (k n3 : Nat) : C := seqC E h k c9 (K17 k n3)
noncomputable def K21 (k n3 : Nat) : C := blockK 1 (K20 k n3)
noncomputable def c10 : Code := subC b [1, 1, 0, 1, 0, 0, 1, 1, 0, 0, 1]
noncomputable def K22 (k n3 : Nat) : C := outD h c10 (K21 k n3)
noncomputable def K23 (k n3 : Nat) : C := seqC E h k c10 (K21 k n3)
noncomputable def c11 : Code := subC b [1, 1, 0, 1, 0, 0, 1, 1, 0, 0, 1, 1]
noncomputable def K24 (k n3 : Nat) : C := outD h c11 (K22 k n3)
noncomputable def K25 (k n3 : Nat) : C := seqC E h k c11 (K22 k n3)
noncomputable def c12 : Code := subC b [1, 1, 0, 1, 0, 0, 1, 1, 0, 0, 1, 1, 0, 1]
noncomputable def K26 (k n3 : Nat) : C := outD h c12 (K24 k n3)
noncomputable def K27 (k n3 : Nat) : C := seqC E h k c12 (K24 k n3)
noncomputable def c13 : Code := subC b [1, 1, 1, 1]
noncomputable def K28 (k : Nat) : C := outD h c13 (K9 k)
noncomputable def K29 (k : Nat) : C := seqC E h k c13 (K9 k)
abbrev T6 := (List (List UInt8)) → Int → Int → ((Int) × ((List (List UInt8)) × ((List (Int)) × (List ((Int) × (Int)))))) → Int → R
abbrev T4 := (List (List UInt8)) → Int → Int → Bool → ((Int) × ((List (List UInt8)) × ((List (Int)) × (List ((Int) × (Int)))))) → Int → R
abbrev T5 := ((Int) × ((List (List UInt8)) × ((List (Int)) × (List ((Int) × (Int)))))) → Int → R
abbrev T3 := (List (List UInt8)) → Int → Int → ((Int) × ((List (List UInt8)) × ((List (Int)) × (List ((Int) × (Int)))))) → Int → R
abbrev T2 := ((Int) × ((List (List UInt8)) × ((List (Int)) × (List ((Int) × (Int)))))) → Int → R
abbrev T1 := Bool → ((Int) × ((List (List UInt8)) × ((List (Int)) × (List ((Int) × (Int)))))) → Int → R
abbrev T0 := ((Int) × ((List (List UInt8)) × ((List (Int)) × (List ((Int) × (Int)))))) → Int → R
abbrev s6 : (List (List UInt8)) → Int → Int → ((Int) × ((List (List UInt8)) × ((List (Int)) × (List ((Int) × (Int)))))) → Int → ST cx := fun (x38 : List (List UInt8)) (x39 x40 : Int) (m2 : (Int) × ((List (List UInt8)) × ((List (Int)) × (List ((Int) × (Int)))))) (m3 : Int) => ({ vars := [(2, .addr (.mem 2) []), (3, .addr (.mem 3) []), (38, .v (.slice 9 .str) .ro x38), (39, .v (.int .i64) .ro x39), (40, .v (.int .i64) .ro x40)], scr := [], mems := [(2, ⟨(.agg (.pair (.int .i64) (.pair (.slice 9 .str) (.pair (.slice 3 (.int .i64)) (.slice 33 (.agg (.pair (.int .i64) (.int .i64)))))))), .ro, m2⟩), (3, ⟨(.int .i64), .ro, m3⟩)] } : ST cx)
noncomputable def u6 (k n3 : Nat) : T6 := fun (x38 : List (List UInt8)) (x39 x40 : Int) (m2 : (Int) × ((List (List UInt8)) × ((List (Int)) × (List ((Int) × (Int)))))) (m3 : Int) => uK (run E h k c9) (s6 x38 x39 x40 m2 m3) (K19 k n3)
noncomputable abbrev l6 (k n3 : Nat) : T6 := fun (x38 : List (List UInt8)) (x39 x40 : Int) (m2 : (Int) × ((List (List UInt8)) × ((List (Int)) × (List ((Int) × (Int)))))) (m3 : Int) => cutK (run E h k c9) (s6 x38 x39 x40 m2 m3) (K19 k n3)
abbrev s4 : (List (List UInt8)) → Int → Int → Bool → ((Int) × ((List (List UInt8)) × ((List (Int)) × (List ((Int) × (Int)))))) → Int → ST cx := fun (x38 : List (List UInt8)) (x39 x40 : Int) (x78 : Bool) (m2 : (Int) × ((List (List UInt8)) × ((List (Int)) × (List ((Int) × (Int)))))) (m3 : Int) => ({ vars := [(2, .addr (.mem 2) []), (3, .addr (.mem 3) []), (38, .v (.slice 9 .str) .ro x38), (39, .v (.int .i64) .ro x39), (40, .v (.int .i64) .ro x40), (78, .v .bool .ro x78)], scr := [], mems := [(2, ⟨(.agg (.pair (.int .i64) (.pair (.slice 9 .str) (.pair (.slice 3 (.int .i64)) (.slice 33 (.agg (.pair (.int .i64) (.int .i64)))))))), .ro, m2⟩), (3, ⟨(.int .i64), .ro, m3⟩)] } : ST cx)
noncomputable def u4 (k n3 : Nat) : T4 := fun (x38 : List (List UInt8)) (x39 x40 : Int) (x78 : Bool) (m2 : (Int) × ((List (List UInt8)) × ((List (Int)) × (List ((Int) × (Int)))))) (m3 : Int) => uK (run E h k c11) (s4 x38 x39 x40 x78 m2 m3) (K24 k n3)
noncomputable abbrev l4 (k n3 : Nat) : T4 := fun (x38 : List (List UInt8)) (x39 x40 : Int) (x78 : Bool) (m2 : (Int) × ((List (List UInt8)) × ((List (Int)) × (List ((Int) × (Int)))))) (m3 : Int) => cutK (run E h k c11) (s4 x38 x39 x40 x78 m2 m3) (K24 k n3)
abbrev s5 : ((Int) × ((List (List UInt8)) × ((List (Int)) × (List ((Int) × (Int)))))) → Int → ST cx := fun (m2 : (Int) × ((List (List UInt8)) × ((List (Int)) × (List ((Int) × (Int)))))) (m3 : Int) => ({ vars := [(2, .addr (.mem 2) []), (3, .addr (.mem 3) [])], scr := [], mems := [(2, ⟨(.agg (.pair (.int .i64) (.pair (.slice 9 .str) (.pair (.slice 3 (.int .i64)) (.slice 33 (.agg (.pair (.int .i64) (.int .i64)))))))), .ro, m2⟩), (3, ⟨(.int .i64), .ro, m3⟩)] } : ST cx)
noncomputable def u5 (k : Nat) : T5 := fun (m2 : (Int) × ((List (List UInt8)) × ((List (Int)) × (List ((Int) × (Int)))))) (m3 : Int) => uK (run E h k c4) (s5 m2 m3) (K9 k)
noncomputable abbrev l5 (k : Nat) : T5 := fun (m2 : (Int) × ((List (List UInt8)) × ((List (Int)) × (List ((Int) × (Int)))))) (m3 : Int) => cutK (run E h k c4) (s5 m2 m3) (K9 k)
abbrev s3 : (List (List UInt8)) → Int → Int → ((Int) × ((List (List UInt8)) × ((List (Int)) × (List ((Int) × (Int)))))) → Int → ST cx := fun (x38 : List (List UInt8)) (x39 x40 : Int) (m2 : (Int) × ((List (List UInt8)) × ((List (Int)) × (List ((Int) × (Int)))))) (m3 : Int) => ({ vars := [(2, .addr (.mem 2) []), (3, .addr (.mem 3) []), (38, .v (.slice 9 .str) .ro x38), (39, .v (.int .i64) .ro x39), (40, .v (.int .i64) .ro x40)], scr := [], mems := [(2, ⟨(.agg (.pair (.int .i64) (.pair (.slice 9 .str) (.pair (.slice 3 (.int .i64)) (.slice 33 (.agg (.pair (.int .i64) (.int .i64)))))))), .ro, m2⟩), (3, ⟨(.int .i64), .ro, m3⟩)] } : ST cx)
noncomputable def u3 (k n3 : Nat) : T3 := fun (x38 : List (List UInt8)) (x39 x40 : Int) (m2 : (Int) × ((List (List UInt8)) × ((List (Int)) × (List ((Int) × (Int)))))) (m3 : Int) => uK (loopL E h k c6 (K13 k) n3) (s3 x38 x39 x40 m2 m3) ()
noncomputable abbrev l3 (k n3 : Nat) : T3 := fun (x38 : List (List UInt8)) (x39 x40 : Int) (m2 : (Int) × ((List (List UInt8)) × ((List (Int)) × (List ((Int) × (Int)))))) (m3 : Int) => cutK (loopL E h k c6 (K13 k) n3) (s3 x38 x39 x40 m2 m3) ()
abbrev s2 : ((Int) × ((List (List UInt8)) × ((List (Int)) × (List ((Int) × (Int)))))) → Int → ST cx := fun (m2 : (Int) × ((List (List UInt8)) × ((List (Int)) × (List ((Int) × (Int)))))) (m3 : Int) => ({ vars := [(2, .addr (.mem 2) []), (3, .addr (.mem 3) [])], scr := [], mems := [(2, ⟨(.agg (.pair (.int .i64) (.pair (.slice 9 .str) (.pair (.slice 3 (.int .i64)) (.slice 33 (.agg (.pair (.int .i64) (.int .i64)))))))), .ro, m2⟩), (3, ⟨(.int .i64), .ro, m3⟩)] } : ST cx)
noncomputable def u2 (k : Nat) : T2 := fun (m2 : (Int) × ((List (List UInt8)) × ((List (Int)) × (List ((Int) × (Int)))))) (m3 : Int) => uK (run E h k c1) (s2 m2 m3) (K3 k)
noncomputable abbrev l2 (k : Nat) : T2 := fun (m2 : (Int) × ((List (List UInt8)) × ((List (Int)) × (List ((Int) × (Int)))))) (m3 : Int) => cutK (run E h k c1) (s2 m2 m3) (K3 k)
abbrev s1 : Bool → ((Int) × ((List (List UInt8)) × ((List (Int)) × (List ((Int) × (Int)))))) → Int → ST cx := fun (x36 : Bool) (m2 : (Int) × ((List (List UInt8)) × ((List (Int)) × (List ((Int) × (Int)))))) (m3 : Int) => ({ vars := [(2, .addr (.mem 2) []), (3, .addr (.mem 3) []), (36, .v .bool .ro x36)], scr := [], mems := [(2, ⟨(.agg (.pair (.int .i64) (.pair (.slice 9 .str) (.pair (.slice 3 (.int .i64)) (.slice 33 (.agg (.pair (.int .i64) (.int .i64)))))))), .ro, m2⟩), (3, ⟨(.int .i64), .ro, m3⟩)] } : ST cx)
noncomputable def u1 (k : Nat) : T1 := fun (x36 : Bool) (m2 : (Int) × ((List (List UInt8)) × ((List (Int)) × (List ((Int) × (Int)))))) (m3 : Int) => uK (run E h k c2) (s1 x36 m2 m3) (K5 k)
noncomputable abbrev l1 (k : Nat) : T1 := fun (x36 : Bool) (m2 : (Int) × ((List (List UInt8)) × ((List (Int)) × (List ((Int) × (Int)))))) (m3 : Int) => cutK (run E h k c2) (s1 x36 m2 m3) (K5 k)
noncomputable def u0 (k : Nat) : T0 := fun (x0 : (Int) × ((List (List UInt8)) × ((List (Int)) × (List ((Int) × (Int)))))) (x1 : Int) => runOf (S := cx) E h k Try.f22 [.val (.agg (.pair (.int .i64) (.pair (.slice 9 .str) (.pair (.slice 3 (.int .i64)) (.slice 33 (.agg (.pair (.int .i64) (.int .i64)))))))), .val (.int .i64)] .bool .ro (x0, x1, ())
def t6 (f3 : T3) : T6 := fun (x38 : List (List UInt8)) (x39 x40 : Int) (m2 : (Int) × ((List (List UInt8)) × ((List (Int)) × (List ((Int) × (Int)))))) (m3 : Int) => 
  (f3 x38 x39 (w64 (x40 + (1 : Int))) m2 m3)
theorem e6 (k n3 : Nat) : u6 k n3 = t6 (l3 k n3) := by kernel_rfl
theorem g6 (k n3 : Nat) : l6 k n3 = u6 k n3 := funext fun _ => funext fun _ => funext fun _ => funext fun _ => funext fun _ => cut_u _ _ _
theorem d6 {x3 y3 : T3} (h3 : x3 = y3) : t6 x3 = t6 y3 := by subst h3; rfl
def p6 (k : Nat) (a3 : T3) : T6 := t6 a3
theorem o6 (k n3 : Nat) (a3 : T3) (h3 : l3 k n3 = a3) : l6 k n3 = p6 k a3 := (Eq.trans (b := u6 k n3) (g6 k n3) (Eq.trans (b := t6 (l3 k n3)) (e6 k n3) (Eq.trans (b := t6 a3) (d6 h3) (by kernel_rfl))))
def t4 (f6 : T6) : T4 := fun (x38 : List (List UInt8)) (x39 x40 : Int) (x78 : Bool) (m2 : (Int) × ((List (List UInt8)) × ((List (Int)) × (List ((Int) × (Int)))))) (m3 : Int) => 
  (iteB x78 (some (false, ())) (f6 x38 x39 x40 m2 m3))
theorem e4 (k n3 : Nat) : u4 k n3 = t4 (l6 k n3) := by kernel_rfl
theorem g4 (k n3 : Nat) : l4 k n3 = u4 k n3 := funext fun _ => funext fun _ => funext fun _ => funext fun _ => funext fun _ => funext fun _ => cut_u _ _ _
theorem d4 {x6 y6 : T6} (h6 : x6 = y6) : t4 x6 = t4 y6 := by subst h6; rfl
def p4 (k : Nat) (a3 : T3) : T4 := t4 (p6 k a3)
theorem o4 (k n3 : Nat) (a3 : T3) (h3 : l3 k n3 = a3) : l4 k n3 = p4 k a3 := (Eq.trans (b := u4 k n3) (g4 k n3) (Eq.trans (b := t4 (l6 k n3)) (e4 k n3) (Eq.trans (b := t4 (p6 k a3)) (d4 (o6 k n3 a3 h3)) (by kernel_rfl))))
def t5 : T5 := fun (m2 : (Int) × ((List (List UInt8)) × ((List (Int)) × (List ((Int) × (Int)))))) (m3 : Int) => 
  (bindR (s_slices_ContainsFunc_l78 (m2.2.2.2, ((m3, ()), ()))) fun r8 => (some ((notB r8.1), ())))
theorem e5 (k : Nat) : u5 k = t5 := by kernel_rfl
theorem g5 (k : Nat) : l5 k = u5 k := funext fun _ => funext fun _ => cut_u _ _ _
def p5 (k : Nat) : T5 := t5
theorem o5 (k : Nat) : l5 k = p5 k := (Eq.trans (b := u5 k) (g5 k) (Eq.trans (b := t5) (e5 k) (by kernel_rfl)))
def t3 (f4 : T4) (f5 : T5) : T3 := fun (x38 : List (List UInt8)) (x39 x40 : Int) (m2 : (Int) × ((List (List UInt8)) × ((List (Int)) × (List ((Int) × (Int)))))) (m3 : Int) => 
  (iteB (decide (x40 < x39)) (withinR x40 (List.length x38) fun q1 => (bindR (s_marks_isName ((List.getD x38 q1 ([] : List UInt8)), ())) fun r2 => (iteB (notB r2.1) (f4 x38 x39 x40 true m2 m3) (iteB (decide ((0 : Int) < x40)) (withinR (w64 (x40 - (1 : Int))) (List.length m2.2.1) fun q3 => (iteB (!(Op.bytesLess (List.getD m2.2.1 q3 ([] : List UInt8)) (List.getD x38 q1 ([] : List UInt8)))) (f4 x38 x39 x40 true m2 m3) (withinR x40 (List.length m2.2.2.1) fun q4 => (iteB (decide ((List.getD m2.2.2.1 q4 (0 : Int)) < (0 : Int))) (f4 x38 x39 x40 true m2 m3) (withinR x40 (List.length m2.2.2.1) fun q5 => (f4 x38 x39 x40 (decide (m3 < (List.getD m2.2.2.1 q5 (0 : Int)))) m2 m3)))))) (withinR x40 (List.length m2.2.2.1) fun q6 => (iteB (decide ((List.getD m2.2.2.1 q6 (0 : Int)) < (0 : Int))) (f4 x38 x39 x40 true m2 m3) (withinR x40 (List.length m2.2.2.1) fun q7 => (f4 x38 x39 x40 (decide (m3 < (List.getD m2.2.2.1 q7 (0 : Int)))) m2 m3)))))))) (f5 m2 m3))
theorem e3 (k n3 : Nat) : u3 k (n3 + 1) = t3 (l4 k n3) (l5 k) := by kernel_rfl
theorem g3 (k n3 : Nat) : l3 k (n3 + 1) = u3 k (n3 + 1) := funext fun _ => funext fun _ => funext fun _ => funext fun _ => funext fun _ => cut_u _ _ _
theorem d3 {x4 y4 : T4} {x5 y5 : T5} (h4 : x4 = y4) (h5 : x5 = y5) : t3 x4 x5 = t3 y4 y5 := by subst h4; subst h5; rfl
def p3 (k : Nat) : Nat → T3
  | 0 => fun _ _ _ _ _ => none
  | n3 + 1 => t3 (p4 k (p3 k n3)) (p5 k)
theorem o3 (k : Nat) : ∀ n3, l3 k n3 = p3 k n3 := by
  intro n3
  induction n3 with
  | zero => kernel_rfl
  | succ n3 ih => exact (Eq.trans (b := u3 k (n3 + 1)) (g3 k n3) (Eq.trans (b := t3 (l4 k n3) (l5 k)) (e3 k n3) (Eq.trans (b := t3 (p4 k (p3 k n3)) (p5 k)) (d3 (o4 k n3 (p3 k n3) ih) (o5 k)) (by kernel_rfl))))
def t2 (f3 : T3) : T2 := fun (m2 : (Int) × ((List (List UInt8)) × ((List (Int)) × (List ((Int) × (Int)))))) (m3 : Int) => 
  (f3 m2.2.1 ((List.length m2.2.1 : Nat) : Int) (0 : Int) m2 m3)
theorem e2 (k : Nat) : u2 k = t2 (l3 k k) := by kernel_rfl
theorem g2 (k : Nat) : l2 k = u2 k := funext fun _ => funext fun _ => cut_u _ _ _
theorem d2 {x3 y3 : T3} (h3 : x3 = y3) : t2 x3 = t2 y3 := by subst h3; rfl
def p2 (k : Nat) : T2 := t2 (p3 k k)
theorem o2 (k : Nat) : l2 k = p2 k := (Eq.trans (b := u2 k) (g2 k) (Eq.trans (b := t2 (l3 k k)) (e2 k) (Eq.trans (b := t2 (p3 k k)) (d2 (o3 k k)) (by kernel_rfl))))
def t1 (f2 : T2) : T1 := fun (x36 : Bool) (m2 : (Int) × ((List (List UInt8)) × ((List (Int)) × (List ((Int) × (Int)))))) (m3 : Int) => 
  (iteB x36 (some (false, ())) (f2 m2 m3))
theorem e1 (k : Nat) : u1 k = t1 (l2 k) := by kernel_rfl
theorem g1 (k : Nat) : l1 k = u1 k := funext fun _ => funext fun _ => funext fun _ => cut_u _ _ _
theorem d1 {x2 y2 : T2} (h2 : x2 = y2) : t1 x2 = t1 y2 := by subst h2; rfl
def p1 (k : Nat) : T1 := t1 (p2 k)
theorem o1 (k : Nat) : l1 k = p1 k := (Eq.trans (b := u1 k) (g1 k) (Eq.trans (b := t1 (l2 k)) (e1 k) (Eq.trans (b := t1 (p2 k)) (d1 (o2 k)) (by kernel_rfl))))
def t0 (f1 : T1) : T0 := fun (x0 : (Int) × ((List (List UInt8)) × ((List (Int)) × (List ((Int) × (Int)))))) (x1 : Int) => 
  (iteB (decide (x0.1 < (0 : Int))) (f1 true x0 x1) (iteB (decide (x1 < x0.1)) (f1 true x0 x1) (iteB (!decide (((List.length x0.2.1 : Nat) : Int) = ((List.length x0.2.2.1 : Nat) : Int))) (f1 true x0 x1) (iteB (decide ((32 : Int) < ((List.length x0.2.1 : Nat) : Int))) (f1 true x0 x1) (f1 (decide ((32 : Int) < ((List.length x0.2.2.2 : Nat) : Int))) x0 x1)))))
theorem e0 (k : Nat) : u0 k = t0 (l1 k) := by kernel_rfl
theorem d0 {x1 y1 : T1} (h1 : x1 = y1) : t0 x1 = t0 y1 := by subst h1; rfl
def p0 (k : Nat) : T0 := t0 (p1 k)
theorem o0 (k : Nat) : u0 k = p0 k := (Eq.trans (b := t0 (l1 k)) (e0 k) (Eq.trans (b := t0 (p1 k)) (d0 (o1 k)) (by kernel_rfl)))
end marks_Right
def s_marks_Right (a : ((Int) × ((List (List UInt8)) × ((List (Int)) × (List ((Int) × (Int)))))) × ((Int) × (Unit))) : Option ((Bool) × (Unit)) := marks_Right.p0 (fuel) a.1 a.2.1
noncomputable def F_marks_Right : FSpec cx.toNm := { ps := [.val (.agg (.pair (.int .i64) (.pair (.slice 9 .str) (.pair (.slice 3 (.int .i64)) (.slice 33 (.agg (.pair (.int .i64) (.int .i64)))))))), .val (.int .i64)], nres := 1, rt := .bool, rm := .ro, f := s_marks_Right }
theorem w_marks_Right (a : ((Int) × ((List (List UInt8)) × ((List (Int)) × (List ((Int) × (Int)))))) × ((Int) × (Unit))) : runOf (S := cx) marks_Right.E marks_Right.h (fuel) Try.f22 F_marks_Right.ps F_marks_Right.rt F_marks_Right.rm a = F_marks_Right.f a := Eq.trans (b := marks_Right.u0 (fuel) a.1 a.2.1) (by kernel_rfl) (Eq.trans (b := marks_Right.p0 (fuel) a.1 a.2.1) (congrFun (congrFun (marks_Right.o0 (fuel)) a.1) a.2.1) (by kernel_rfl))
theorem ok_marks_Right : FnOk Try.prog F_marks_Right 22 := fn_of (hn := marks_Right.h) (E := marks_Right.E) cxOk (tysT _) (fs_cons ok_marks_isName (fs_cons ok_slices_ContainsFunc_l78 fs_nil)) follows Try.func22 (by kernel_rfl) (fun a r h => ⟨fuel, Eq.trans (w_marks_Right a) h⟩)
namespace ref25_Right
noncomputable def E : Env cx := { tys := tys, fs := fsOf [] }
abbrev R := Option ((Bool) × (Unit))
abbrev C := Exit → ST cx → R
noncomputable def b : Code := bodyC Try.f23
noncomputable def h : Hint := { vs := [0, 1, 2, 4, 5, 6], nil := [], cuts := [(2, ([1, 2, 36], [2]), ([1, 2], [2])), (3, ([1, 2], [2]), ([1, 2], [2])), (4, ([1, 2, 5], [2]), ([1, 2], [2])), (5, ([1, 2, 5], [2]), ([1, 2, 5], [2])), (7, ([1, 2, 5, 94], [2]), ([1, 2, 5], [2])), (8, ([1, 2], [2]), ([1, 2], [2])), (9, ([1, 2, 6], [2]), ([], [])), (10, ([1, 2, 6], [2]), ([1, 2, 6], [2])), (12, ([1, 2, 6, 133], [2]), ([1, 2, 6], [2])), (13, ([], []), ([], []))], ret := ([4], [2]), ords := [] }
noncomputable def K0 : C := fin (S := cx) E Try.f23.results.toList .bool .ro [] []
noncomputable def c0 : Code := subC b [1]
noncomputable def K1 (k : Nat) : C := outD h c0 K0
noncomputable def K2 (k : Nat) : C := seqC E h k c0 K0
noncomputable def c1 : Code := subC b [1, 1]
noncomputable def K3 (k : Nat) : C := outD h c1 (K1 k)
noncomputable def K4 (k : Nat) : C := seqC E h k c1 (K1 k)
noncomputable def c2 : Code := subC b [1, 0, 1]
noncomputable def K5 (k : Nat) : C := outD h c2 (K4 k)
noncomputable def K6 (k : Nat) : C := seqC E h k c2 (K4 k)
noncomputable def c3 : Code := subC b [1, 0, 1, 0, 1]
noncomputable def K7 (k : Nat) : C := outD h c3 (K5 k)
noncomputable def K8 (k : Nat) : C := seqC E h k c3 (K5 k)
noncomputable def c4 : Code := subC b [1, 1, 1]
noncomputable def K9 (k : Nat) : C := outD h c4 (K3 k)
noncomputable def K10 (k : Nat) : C := seqC E h k c4 (K3 k)
noncomputable def c5 : Code := subC b [1, 1, 0, 1]
noncomputable def K11 (k : Nat) : C := outD h c5 (K10 k)
noncomputable def K12 (k : Nat) : C := seqC E h k c5 (K10 k)
noncomputable def K13 (k : Nat) : C := blockK 0 (K11 k)
noncomputable def c6 : Code := subC b [1, 1, 0, 1, 0, 0]
noncomputable def K14 (k n3 : Nat) : C := loopD E h k c6 (K13 k) n3
noncomputable def c7 : Code := subC b [1, 1, 0, 1, 0, 0, 1]
noncomputable def K15 (k n3 : Nat) : C := outD h c7 (K14 k n3)
noncomputable def K16 (k n3 : Nat) : C := seqC E h k c7 (K14 k n3)
noncomputable def c8 : Code := subC b [1, 1, 0, 1, 0, 0, 0, 1]
noncomputable def K17 (k n3 : Nat) : C := outD h c8 (K16 k n3)
noncomputable def K18 (k n3 : Nat) : C := seqC E h k c8 (K16 k n3)
noncomputable def c9 : Code := subC b [1, 1, 0, 1, 0, 0, 1, 1]
noncomputable def K19 (k n3 : Nat) : C := outD h c9 (K15 k n3)
noncomputable def K20 (k n3 : Nat) : C := seqC E h k c9 (K15 k n3)
noncomputable def K21 (k n3 : Nat) : C := blockK 1 (K20 k n3)
noncomputable def c10 : Code := subC b [1, 1, 0, 1, 0, 0, 1, 0, 0, 1]
noncomputable def K22 (k n3 : Nat) : C := outD h c10 (K21 k n3)
noncomputable def K23 (k n3 : Nat) : C := seqC E h k c10 (K21 k n3)
noncomputable def c11 : Code := subC b [1, 1, 0, 1, 0, 0, 1, 0, 0, 1, 0, 1]
noncomputable def K24 (k n3 : Nat) : C := outD h c11 (K22 k n3)
noncomputable def K25 (k n3 : Nat) : C := seqC E h k c11 (K22 k n3)
noncomputable def c12 : Code := subC b [1, 1, 1, 1]
noncomputable def K26 (k : Nat) : C := outD h c12 (K9 k)
noncomputable def K27 (k : Nat) : C := seqC E h k c12 (K9 k)
noncomputable def c13 : Code := subC b [1, 1, 1, 0, 1]
noncomputable def K28 (k : Nat) : C := outD h c13 (K27 k)
noncomputable def K29 (k : Nat) : C := seqC E h k c13 (K27 k)
noncomputable def K30 (k : Nat) : C := blockK 2 (K28 k)
noncomputable def c14 : Code := subC b [1, 1, 1, 0, 1, 0, 0]
noncomputable def K31 (k n7 : Nat) : C := loopD E h k c14 (K30 k) n7
noncomputable def c15 : Code := subC b [1, 1, 1, 0, 1, 0, 0, 1]
noncomputable def K32 (k n7 : Nat) : C := outD h c15 (K31 k n7)
noncomputable def K33 (k n7 : Nat) : C := seqC E h k c15 (K31 k n7)
noncomputable def c16 : Code := subC b [1, 1, 1, 0, 1, 0, 0, 0, 1]
noncomputable def K34 (k n7 : Nat) : C := outD h c16 (K33 k n7)
noncomputable def K35 (k n7 : Nat) : C := seqC E h k c16 (K33 k n7)
noncomputable def c17 : Code := subC b [1, 1, 1, 0, 1, 0, 0, 1, 1]
noncomputable def K36 (k n7 : Nat) : C := outD h c17 (K32 k n7)
noncomputable def K37 (k n7 : Nat) : C := seqC E h k c17 (K32 k n7)
noncomputable def K38 (k n7 : Nat) : C := blockK 3 (K37 k n7)
noncomputable def c18 : Code := subC b [1, 1, 1, 0, 1, 0, 0, 1, 0, 0, 1]
noncomputable def K39 (k n7 : Nat) : C := outD h c18 (K38 k n7)
noncomputable def K40 (k n7 : Nat) : C := seqC E h k c18 (K38 k n7)
noncomputable def c19 : Code := subC b [1, 1, 1, 0, 1, 0, 0, 1, 0, 0, 1, 0, 1]
noncomputable def K41 (k n7 : Nat) : C := outD h c19 (K39 k n7)
noncomputable def K42 (k n7 : Nat) : C := seqC E h k c19 (K39 k n7)
noncomputable def c20 : Code := subC b [1, 1, 1, 1, 1]
noncomputable def K43 (k : Nat) : C := outD h c20 (K26 k)
noncomputable def K44 (k : Nat) : C := seqC E h k c20 (K26 k)
abbrev T6 := Int → Int → ((Int) × ((List (List UInt8)) × ((List (Int)) × (List ((Int) × (Int)))))) → R
abbrev T4 := Int → Int → Bool → ((Int) × ((List (List UInt8)) × ((List (Int)) × (List ((Int) × (Int)))))) → R
abbrev T10 := Int → Int → ((Int) × ((List (List UInt8)) × ((List (Int)) × (List ((Int) × (Int)))))) → R
abbrev T8 := Int → Int → Bool → ((Int) × ((List (List UInt8)) × ((List (Int)) × (List ((Int) × (Int)))))) → R
abbrev T9 := R
abbrev T7 := Int → Int → ((Int) × ((List (List UInt8)) × ((List (Int)) × (List ((Int) × (Int)))))) → R
abbrev T5 := Int → ((Int) × ((List (List UInt8)) × ((List (Int)) × (List ((Int) × (Int)))))) → R
abbrev T3 := Int → Int → ((Int) × ((List (List UInt8)) × ((List (Int)) × (List ((Int) × (Int)))))) → R
abbrev T2 := Int → ((Int) × ((List (List UInt8)) × ((List (Int)) × (List ((Int) × (Int)))))) → R
abbrev T1 := Int → Bool → ((Int) × ((List (List UInt8)) × ((List (Int)) × (List ((Int) × (Int)))))) → R
abbrev T0 := ((Int) × ((List (List UInt8)) × ((List (Int)) × (List ((Int) × (Int)))))) → Int → R
abbrev s6 : Int → Int → ((Int) × ((List (List UInt8)) × ((List (Int)) × (List ((Int) × (Int)))))) → ST cx := fun (x1 x5 : Int) (m2 : (Int) × ((List (List UInt8)) × ((List (Int)) × (List ((Int) × (Int)))))) => ({ vars := [(1, .v (.int .i64) .ro x1), (2, .addr (.mem 2) []), (5, .v (.int .i64) .ro x5)], scr := [], mems := [(2, ⟨(.agg (.pair (.int .i64) (.pair (.slice 9 .str) (.pair (.slice 3 (.int .i64)) (.slice 33 (.agg (.pair (.int .i64) (.int .i64)))))))), .ro, m2⟩)] } : ST cx)
noncomputable def u6 (k n3 : Nat) : T6 := fun (x1 x5 : Int) (m2 : (Int) × ((List (List UInt8)) × ((List (Int)) × (List ((Int) × (Int)))))) => uK (run E h k c9) (s6 x1 x5 m2) (K19 k n3)
noncomputable abbrev l6 (k n3 : Nat) : T6 := fun (x1 x5 : Int) (m2 : (Int) × ((List (List UInt8)) × ((List (Int)) × (List ((Int) × (Int)))))) => cutK (run E h k c9) (s6 x1 x5 m2) (K19 k n3)
abbrev s4 : Int → Int → Bool → ((Int) × ((List (List UInt8)) × ((List (Int)) × (List ((Int) × (Int)))))) → ST cx := fun (x1 x5 : Int) (x94 : Bool) (m2 : (Int) × ((List (List UInt8)) × ((List (Int)) × (List ((Int) × (Int)))))) => ({ vars := [(1, .v (.int .i64) .ro x1), (2, .addr (.mem 2) []), (5, .v (.int .i64) .ro x5), (94, .v .bool .ro x94)], scr := [], mems := [(2, ⟨(.agg (.pair (.int .i64) (.pair (.slice 9 .str) (.pair (.slice 3 (.int .i64)) (.slice 33 (.agg (.pair (.int .i64) (.int .i64)))))))), .ro, m2⟩)] } : ST cx)
noncomputable def u4 (k n3 : Nat) : T4 := fun (x1 x5 : Int) (x94 : Bool) (m2 : (Int) × ((List (List UInt8)) × ((List (Int)) × (List ((Int) × (Int)))))) => uK (run E h k c10) (s4 x1 x5 x94 m2) (K22 k n3)
noncomputable abbrev l4 (k n3 : Nat) : T4 := fun (x1 x5 : Int) (x94 : Bool) (m2 : (Int) × ((List (List UInt8)) × ((List (Int)) × (List ((Int) × (Int)))))) => cutK (run E h k c10) (s4 x1 x5 x94 m2) (K22 k n3)
abbrev s10 : Int → Int → ((Int) × ((List (List UInt8)) × ((List (Int)) × (List ((Int) × (Int)))))) → ST cx := fun (x1 x6 : Int) (m2 : (Int) × ((List (List UInt8)) × ((List (Int)) × (List ((Int) × (Int)))))) => ({ vars := [(1, .v (.int .i64) .ro x1), (2, .addr (.mem 2) []), (6, .v (.int .i64) .ro x6)], scr := [], mems := [(2, ⟨(.agg (.pair (.int .i64) (.pair (.slice 9 .str) (.pair (.slice 3 (.int .i64)) (.slice 33 (.agg (.pair (.int .i64) (.int .i64)))))))), .ro, m2⟩)] } : ST cx)
noncomputable def u10 (k n7 : Nat) : T10 := fun (x1 x6 : Int) (m2 : (Int) × ((List (List UInt8)) × ((List (Int)) × (List ((Int) × (Int)))))) => uK (run E h k c17) (s10 x1 x6 m2) (K36 k n7)
noncomputable abbrev l10 (k n7 : Nat) : T10 := fun (x1 x6 : Int) (m2 : (Int) × ((List (List UInt8)) × ((List (Int)) × (List ((Int) × (Int)))))) => cutK (run E h k c17) (s10 x1 x6 m2) (K36 k n7)
abbrev s8 : Int → Int → Bool → ((Int) × ((List (List UInt8)) × ((List (Int)) × (List ((Int) × (Int)))))) → ST cx := fun (x1 x6 : Int) (x133 : Bool) (m2 : (Int) × ((List (List UInt8)) × ((List (Int)) × (List ((Int) × (Int)))))) => ({ vars := [(1, .v (.int .i64) .ro x1), (2, .addr (.mem 2) []), (6, .v (.int .i64) .ro x6), (133, .v .bool .ro x133)], scr := [], mems := [(2, ⟨(.agg (.pair (.int .i64) (.pair (.slice 9 .str) (.pair (.slice 3 (.int .i64)) (.slice 33 (.agg (.pair (.int .i64) (.int .i64)))))))), .ro, m2⟩)] } : ST cx)
noncomputable def u8 (k n7 : Nat) : T8 := fun (x1 x6 : Int) (x133 : Bool) (m2 : (Int) × ((List (List UInt8)) × ((List (Int)) × (List ((Int) × (Int)))))) => uK (run E h k c18) (s8 x1 x6 x133 m2) (K39 k n7)
noncomputable abbrev l8 (k n7 : Nat) : T8 := fun (x1 x6 : Int) (x133 : Bool) (m2 : (Int) × ((List (List UInt8)) × ((List (Int)) × (List ((Int) × (Int)))))) => cutK (run E h k c18) (s8 x1 x6 x133 m2) (K39 k n7)
abbrev s9 : ST cx := ({ vars := [], scr := [], mems := [] } : ST cx)
noncomputable def u9 (k : Nat) : T9 := uK (run E h k c12) s9 (K26 k)
noncomputable abbrev l9 (k : Nat) : T9 := cutK (run E h k c12) s9 (K26 k)
abbrev s7 : Int → Int → ((Int) × ((List (List UInt8)) × ((List (Int)) × (List ((Int) × (Int)))))) → ST cx := fun (x1 x6 : Int) (m2 : (Int) × ((List (List UInt8)) × ((List (Int)) × (List ((Int) × (Int)))))) => ({ vars := [(1, .v (.int .i64) .ro x1), (2, .addr (.mem 2) []), (6, .v (.int .i64) .ro x6)], scr := [], mems := [(2, ⟨(.agg (.pair (.int .i64) (.pair (.slice 9 .str) (.pair (.slice 3 (.int .i64)) (.slice 33 (.agg (.pair (.int .i64) (.int .i64)))))))), .ro, m2⟩)] } : ST cx)
noncomputable def u7 (k n7 : Nat) : T7 := fun (x1 x6 : Int) (m2 : (Int) × ((List (List UInt8)) × ((List (Int)) × (List ((Int) × (Int)))))) => uK (loopL E h k c14 (K30 k) n7) (s7 x1 x6 m2) ()
noncomputable abbrev l7 (k n7 : Nat) : T7 := fun (x1 x6 : Int) (m2 : (Int) × ((List (List UInt8)) × ((List (Int)) × (List ((Int) × (Int)))))) => cutK (loopL E h k c14 (K30 k) n7) (s7 x1 x6 m2) ()
abbrev s5 : Int → ((Int) × ((List (List UInt8)) × ((List (Int)) × (List ((Int) × (Int)))))) → ST cx := fun (x1 : Int) (m2 : (Int) × ((List (List UInt8)) × ((List (Int)) × (List ((Int) × (Int)))))) => ({ vars := [(1, .v (.int .i64) .ro x1), (2, .addr (.mem 2) [])], scr := [], mems := [(2, ⟨(.agg (.pair (.int .i64) (.pair (.slice 9 .str) (.pair (.slice 3 (.int .i64)) (.slice 33 (.agg (.pair (.int .i64) (.int .i64)))))))), .ro, m2⟩)] } : ST cx)
noncomputable def u5 (k : Nat) : T5 := fun (x1 : Int) (m2 : (Int) × ((List (List UInt8)) × ((List (Int)) × (List ((Int) × (Int)))))) => uK (run E h k c4) (s5 x1 m2) (K9 k)
noncomputable abbrev l5 (k : Nat) : T5 := fun (x1 : Int) (m2 : (Int) × ((List (List UInt8)) × ((List (Int)) × (List ((Int) × (Int)))))) => cutK (run E h k c4) (s5 x1 m2) (K9 k)
abbrev s3 : Int → Int → ((Int) × ((List (List UInt8)) × ((List (Int)) × (List ((Int) × (Int)))))) → ST cx := fun (x1 x5 : Int) (m2 : (Int) × ((List (List UInt8)) × ((List (Int)) × (List ((Int) × (Int)))))) => ({ vars := [(1, .v (.int .i64) .ro x1), (2, .addr (.mem 2) []), (5, .v (.int .i64) .ro x5)], scr := [], mems := [(2, ⟨(.agg (.pair (.int .i64) (.pair (.slice 9 .str) (.pair (.slice 3 (.int .i64)) (.slice 33 (.agg (.pair (.int .i64) (.int .i64)))))))), .ro, m2⟩)] } : ST cx)
noncomputable def u3 (k n3 : Nat) : T3 := fun (x1 x5 : Int) (m2 : (Int) × ((List (List UInt8)) × ((List (Int)) × (List ((Int) × (Int)))))) => uK (loopL E h k c6 (K13 k) n3) (s3 x1 x5 m2) ()
noncomputable abbrev l3 (k n3 : Nat) : T3 := fun (x1 x5 : Int) (m2 : (Int) × ((List (List UInt8)) × ((List (Int)) × (List ((Int) × (Int)))))) => cutK (loopL E h k c6 (K13 k) n3) (s3 x1 x5 m2) ()
abbrev s2 : Int → ((Int) × ((List (List UInt8)) × ((List (Int)) × (List ((Int) × (Int)))))) → ST cx := fun (x1 : Int) (m2 : (Int) × ((List (List UInt8)) × ((List (Int)) × (List ((Int) × (Int)))))) => ({ vars := [(1, .v (.int .i64) .ro x1), (2, .addr (.mem 2) [])], scr := [], mems := [(2, ⟨(.agg (.pair (.int .i64) (.pair (.slice 9 .str) (.pair (.slice 3 (.int .i64)) (.slice 33 (.agg (.pair (.int .i64) (.int .i64)))))))), .ro, m2⟩)] } : ST cx)
noncomputable def u2 (k : Nat) : T2 := fun (x1 : Int) (m2 : (Int) × ((List (List UInt8)) × ((List (Int)) × (List ((Int) × (Int)))))) => uK (run E h k c1) (s2 x1 m2) (K3 k)
noncomputable abbrev l2 (k : Nat) : T2 := fun (x1 : Int) (m2 : (Int) × ((List (List UInt8)) × ((List (Int)) × (List ((Int) × (Int)))))) => cutK (run E h k c1) (s2 x1 m2) (K3 k)
abbrev s1 : Int → Bool → ((Int) × ((List (List UInt8)) × ((List (Int)) × (List ((Int) × (Int)))))) → ST cx := fun (x1 : Int) (x36 : Bool) (m2 : (Int) × ((List (List UInt8)) × ((List (Int)) × (List ((Int) × (Int)))))) => ({ vars := [(1, .v (.int .i64) .ro x1), (2, .addr (.mem 2) []), (36, .v .bool .ro x36)], scr := [], mems := [(2, ⟨(.agg (.pair (.int .i64) (.pair (.slice 9 .str) (.pair (.slice 3 (.int .i64)) (.slice 33 (.agg (.pair (.int .i64) (.int .i64)))))))), .ro, m2⟩)] } : ST cx)
noncomputable def u1 (k : Nat) : T1 := fun (x1 : Int) (x36 : Bool) (m2 : (Int) × ((List (List UInt8)) × ((List (Int)) × (List ((Int) × (Int)))))) => uK (run E h k c2) (s1 x1 x36 m2) (K5 k)
noncomputable abbrev l1 (k : Nat) : T1 := fun (x1 : Int) (x36 : Bool) (m2 : (Int) × ((List (List UInt8)) × ((List (Int)) × (List ((Int) × (Int)))))) => cutK (run E h k c2) (s1 x1 x36 m2) (K5 k)
noncomputable def u0 (k : Nat) : T0 := fun (x0 : (Int) × ((List (List UInt8)) × ((List (Int)) × (List ((Int) × (Int)))))) (x1 : Int) => runOf (S := cx) E h k Try.f23 [.val (.agg (.pair (.int .i64) (.pair (.slice 9 .str) (.pair (.slice 3 (.int .i64)) (.slice 33 (.agg (.pair (.int .i64) (.int .i64)))))))), .val (.int .i64)] .bool .ro (x0, x1, ())
def t6 (f3 : T3) : T6 := fun (x1 x5 : Int) (m2 : (Int) × ((List (List UInt8)) × ((List (Int)) × (List ((Int) × (Int)))))) => 
  (f3 x1 (w64 (x5 + (1 : Int))) m2)
theorem e6 (k n3 : Nat) : u6 k n3 = t6 (l3 k n3) := by kernel_rfl
theorem g6 (k n3 : Nat) : l6 k n3 = u6 k n3 := funext fun _ => funext fun _ => funext fun _ => cut_u _ _ _
theorem d6 {x3 y3 : T3} (h3 : x3 = y3) : t6 x3 = t6 y3 := by subst h3; rfl
def p6 (k : Nat) (a3 : T3) : T6 := t6 a3
theorem o6 (k n3 : Nat) (a3 : T3) (h3 : l3 k n3 = a3) : l6 k n3 = p6 k a3 := (Eq.trans (b := u6 k n3) (g6 k n3) (Eq.trans (b := t6 (l3 k n3)) (e6 k n3) (Eq.trans (b := t6 a3) (d6 h3) (by kernel_rfl))))
def t4 (f6 : T6) : T4 := fun (x1 x5 : Int) (x94 : Bool) (m2 : (Int) × ((List (List UInt8)) × ((List (Int)) × (List ((Int) × (Int)))))) => 
  (iteB x94 (some (false, ())) (f6 x1 x5 m2))
theorem e4 (k n3 : Nat) : u4 k n3 = t4 (l6 k n3) := by kernel_rfl
theorem g4 (k n3 : Nat) : l4 k n3 = u4 k n3 := funext fun _ => funext fun _ => funext fun _ => funext fun _ => cut_u _ _ _
theorem d4 {x6 y6 : T6} (h6 : x6 = y6) : t4 x6 = t4 y6 := by subst h6; rfl
def p4 (k : Nat) (a3 : T3) : T4 := t4 (p6 k a3)
theorem o4 (k n3 : Nat) (a3 : T3) (h3 : l3 k n3 = a3) : l4 k n3 = p4 k a3 := (Eq.trans (b := u4 k n3) (g4 k n3) (Eq.trans (b := t4 (l6 k n3)) (e4 k n3) (Eq.trans (b := t4 (p6 k a3)) (d4 (o6 k n3 a3 h3)) (by kernel_rfl))))
def t10 (f7 : T7) : T10 := fun (x1 x6 : Int) (m2 : (Int) × ((List (List UInt8)) × ((List (Int)) × (List ((Int) × (Int)))))) => 
  (f7 x1 (w64 (x6 + (1 : Int))) m2)
theorem e10 (k n7 : Nat) : u10 k n7 = t10 (l7 k n7) := by kernel_rfl
theorem g10 (k n7 : Nat) : l10 k n7 = u10 k n7 := funext fun _ => funext fun _ => funext fun _ => cut_u _ _ _
theorem d10 {x7 y7 : T7} (h7 : x7 = y7) : t10 x7 = t10 y7 := by subst h7; rfl
def p10 (k : Nat) (a7 : T7) : T10 := t10 a7
theorem o10 (k n7 : Nat) (a7 : T7) (h7 : l7 k n7 = a7) : l10 k n7 = p10 k a7 := (Eq.trans (b := u10 k n7) (g10 k n7) (Eq.trans (b := t10 (l7 k n7)) (e10 k n7) (Eq.trans (b := t10 a7) (d10 h7) (by kernel_rfl))))
def t8 (f10 : T10) : T8 := fun (x1 x6 : Int) (x133 : Bool) (m2 : (Int) × ((List (List UInt8)) × ((List (Int)) × (List ((Int) × (Int)))))) => 
  (iteB x133 (some (false, ())) (f10 x1 x6 m2))
theorem e8 (k n7 : Nat) : u8 k n7 = t8 (l10 k n7) := by kernel_rfl
theorem g8 (k n7 : Nat) : l8 k n7 = u8 k n7 := funext fun _ => funext fun _ => funext fun _ => funext fun _ => cut_u _ _ _
theorem d8 {x10 y10 : T10} (h10 : x10 = y10) : t8 x10 = t8 y10 := by subst h10; rfl
def p8 (k : Nat) (a7 : T7) : T8 := t8 (p10 k a7)
theorem o8 (k n7 : Nat) (a7 : T7) (h7 : l7 k n7 = a7) : l8 k n7 = p8 k a7 := (Eq.trans (b := u8 k n7) (g8 k n7) (Eq.trans (b := t8 (l10 k n7)) (e8 k n7) (Eq.trans (b := t8 (p10 k a7)) (d8 (o10 k n7 a7 h7)) (by kernel_rfl))))
def t9 : T9 := 
  (some (true, ()))
theorem e9 (k : Nat) : u9 k = t9 := by kernel_rfl
theorem g9 (k : Nat) : l9 k = u9 k := cut_u _ _ _
def p9 (k : Nat) : T9 := t9
theorem o9 (k : Nat) : l9 k = p9 k := (Eq.trans (b := u9 k) (g9 k) (Eq.trans (b := t9) (e9 k) (by kernel_rfl)))
def t7 (f8 : T8) (f9 : T9) : T7 := fun (x1 x6 : Int) (m2 : (Int) × ((List (List UInt8)) × ((List (Int)) × (List ((Int) × (Int)))))) => 
  (iteB (decide (x6 < ((List.length m2.2.2.2 : Nat) : Int))) (withinR x6 (List.length m2.2.2.2) fun q9 => (iteB (decide ((List.getD m2.2.2.2 q9 ((0 : Int), (0 : Int))).1 < (0 : Int))) (f8 x1 x6 true m2) (withinR x6 (List.length m2.2.2.2) fun q10 => (withinR x6 (List.length m2.2.2.2) fun q11 => (iteB (decide ((List.getD m2.2.2.2 q10 ((0 : Int), (0 : Int))).2 < (List.getD m2.2.2.2 q11 ((0 : Int), (0 : Int))).1)) (f8 x1 x6 true m2) (withinR x6 (List.length m2.2.2.2) fun q12 => (f8 x1 x6 (decide (x1 < (List.getD m2.2.2.2 q12 ((0 : Int), (0 : Int))).2)) m2))))))) f9)
theorem e7 (k n7 : Nat) : u7 k (n7 + 1) = t7 (l8 k n7) (l9 k) := by kernel_rfl
theorem g7 (k n7 : Nat) : l7 k (n7 + 1) = u7 k (n7 + 1) := funext fun _ => funext fun _ => funext fun _ => cut_u _ _ _
theorem d7 {x8 y8 : T8} {x9 y9 : T9} (h8 : x8 = y8) (h9 : x9 = y9) : t7 x8 x9 = t7 y8 y9 := by subst h8; subst h9; rfl
def p7 (k : Nat) : Nat → T7
  | 0 => fun _ _ _ => none
  | n7 + 1 => t7 (p8 k (p7 k n7)) (p9 k)
theorem o7 (k : Nat) : ∀ n7, l7 k n7 = p7 k n7 := by
  intro n7
  induction n7 with
  | zero => kernel_rfl
  | succ n7 ih => exact (Eq.trans (b := u7 k (n7 + 1)) (g7 k n7) (Eq.trans (b := t7 (l8 k n7) (l9 k)) (e7 k n7) (Eq.trans (b := t7 (p8 k (p7 k n7)) (p9 k)) (d7 (o8 k n7 (p7 k n7) ih) (o9 k)) (by kernel_rfl))))
def t5 (f7 : T7) : T5 := fun (x1 : Int) (m2 : (Int) × ((List (List UInt8)) × ((List (Int)) × (List ((Int) × (Int)))))) => 
  (f7 x1 (0 : Int) m2)
theorem e5 (k : Nat) : u5 k = t5 (l7 k k) := by kernel_rfl
theorem g5 (k : Nat) : l5 k = u5 k := funext fun _ => funext fun _ => cut_u _ _ _
theorem d5 {x7 y7 : T7} (h7 : x7 = y7) : t5 x7 = t5 y7 := by subst h7; rfl
def p5 (k : Nat) : T5 := t5 (p7 k k)
theorem o5 (k : Nat) : l5 k = p5 k := (Eq.trans (b := u5 k) (g5 k) (Eq.trans (b := t5 (l7 k k)) (e5 k) (Eq.trans (b := t5 (p7 k k)) (d5 (o7 k k)) (by kernel_rfl))))
def t3 (f4 : T4) (f5 : T5) : T3 := fun (x1 x5 : Int) (m2 : (Int) × ((List (List UInt8)) × ((List (Int)) × (List ((Int) × (Int)))))) => 
  (iteB (decide (x5 < ((List.length m2.2.1 : Nat) : Int))) (withinR x5 (List.length m2.2.1) fun q1 => (iteB (decide (((List.length (List.getD m2.2.1 q1 ([] : List UInt8)) : Nat) : Int) < (1 : Int))) (f4 x1 x5 true m2) (withinR x5 (List.length m2.2.1) fun q2 => (iteB (decide ((16 : Int) < ((List.length (List.getD m2.2.1 q2 ([] : List UInt8)) : Nat) : Int))) (f4 x1 x5 true m2) (iteB (decide ((0 : Int) < x5)) (withinR x5 (List.length m2.2.1) fun q3 => (withinR (w64 (x5 - (1 : Int))) (List.length m2.2.1) fun q4 => (iteB ((Op.bytesLess (List.getD m2.2.1 q3 ([] : List UInt8)) (List.getD m2.2.1 q4 ([] : List UInt8))) || (decide ((List.getD m2.2.1 q3 ([] : List UInt8)) = (List.getD m2.2.1 q4 ([] : List UInt8))))) (f4 x1 x5 true m2) (withinR x5 (List.length m2.2.2.1) fun q5 => (iteB (decide ((List.getD m2.2.2.1 q5 (0 : Int)) < (0 : Int))) (f4 x1 x5 true m2) (withinR x5 (List.length m2.2.2.1) fun q6 => (f4 x1 x5 (decide (x1 < (List.getD m2.2.2.1 q6 (0 : Int)))) m2))))))) (withinR x5 (List.length m2.2.2.1) fun q7 => (iteB (decide ((List.getD m2.2.2.1 q7 (0 : Int)) < (0 : Int))) (f4 x1 x5 true m2) (withinR x5 (List.length m2.2.2.1) fun q8 => (f4 x1 x5 (decide (x1 < (List.getD m2.2.2.1 q8 (0 : Int)))) m2))))))))) (f5 x1 m2))
theorem e3 (k n3 : Nat) : u3 k (n3 + 1) = t3 (l4 k n3) (l5 k) := by kernel_rfl
theorem g3 (k n3 : Nat) : l3 k (n3 + 1) = u3 k (n3 + 1) := funext fun _ => funext fun _ => funext fun _ => cut_u _ _ _
theorem d3 {x4 y4 : T4} {x5 y5 : T5} (h4 : x4 = y4) (h5 : x5 = y5) : t3 x4 x5 = t3 y4 y5 := by subst h4; subst h5; rfl
def p3 (k : Nat) : Nat → T3
  | 0 => fun _ _ _ => none
  | n3 + 1 => t3 (p4 k (p3 k n3)) (p5 k)
theorem o3 (k : Nat) : ∀ n3, l3 k n3 = p3 k n3 := by
  intro n3
  induction n3 with
  | zero => kernel_rfl
  | succ n3 ih => exact (Eq.trans (b := u3 k (n3 + 1)) (g3 k n3) (Eq.trans (b := t3 (l4 k n3) (l5 k)) (e3 k n3) (Eq.trans (b := t3 (p4 k (p3 k n3)) (p5 k)) (d3 (o4 k n3 (p3 k n3) ih) (o5 k)) (by kernel_rfl))))
def t2 (f3 : T3) : T2 := fun (x1 : Int) (m2 : (Int) × ((List (List UInt8)) × ((List (Int)) × (List ((Int) × (Int)))))) => 
  (f3 x1 (0 : Int) m2)
theorem e2 (k : Nat) : u2 k = t2 (l3 k k) := by kernel_rfl
theorem g2 (k : Nat) : l2 k = u2 k := funext fun _ => funext fun _ => cut_u _ _ _
theorem d2 {x3 y3 : T3} (h3 : x3 = y3) : t2 x3 = t2 y3 := by subst h3; rfl
def p2 (k : Nat) : T2 := t2 (p3 k k)
theorem o2 (k : Nat) : l2 k = p2 k := (Eq.trans (b := u2 k) (g2 k) (Eq.trans (b := t2 (l3 k k)) (e2 k) (Eq.trans (b := t2 (p3 k k)) (d2 (o3 k k)) (by kernel_rfl))))
def t1 (f2 : T2) : T1 := fun (x1 : Int) (x36 : Bool) (m2 : (Int) × ((List (List UInt8)) × ((List (Int)) × (List ((Int) × (Int)))))) => 
  (iteB x36 (some (false, ())) (f2 x1 m2))
theorem e1 (k : Nat) : u1 k = t1 (l2 k) := by kernel_rfl
theorem g1 (k : Nat) : l1 k = u1 k := funext fun _ => funext fun _ => funext fun _ => cut_u _ _ _
theorem d1 {x2 y2 : T2} (h2 : x2 = y2) : t1 x2 = t1 y2 := by subst h2; rfl
def p1 (k : Nat) : T1 := t1 (p2 k)
theorem o1 (k : Nat) : l1 k = p1 k := (Eq.trans (b := u1 k) (g1 k) (Eq.trans (b := t1 (l2 k)) (e1 k) (Eq.trans (b := t1 (p2 k)) (d1 (o2 k)) (by kernel_rfl))))
def t0 (f1 : T1) : T0 := fun (x0 : (Int) × ((List (List UInt8)) × ((List (Int)) × (List ((Int) × (Int)))))) (x1 : Int) => 
  (iteB (decide (x0.1 < (0 : Int))) (f1 x1 true x0) (iteB (decide (x1 < x0.1)) (f1 x1 true x0) (iteB (!decide (((List.length x0.2.1 : Nat) : Int) = ((List.length x0.2.2.1 : Nat) : Int))) (f1 x1 true x0) (iteB (decide ((32 : Int) < ((List.length x0.2.1 : Nat) : Int))) (f1 x1 true x0) (f1 x1 (decide ((32 : Int) < ((List.length x0.2.2.2 : Nat) : Int))) x0)))))
theorem e0 (k : Nat) : u0 k = t0 (l1 k) := by kernel_rfl
theorem d0 {x1 y1 : T1} (h1 : x1 = y1) : t0 x1 = t0 y1 := by subst h1; rfl
def p0 (k : Nat) : T0 := t0 (p1 k)
theorem o0 (k : Nat) : u0 k = p0 k := (Eq.trans (b := t0 (l1 k)) (e0 k) (Eq.trans (b := t0 (p1 k)) (d0 (o1 k)) (by kernel_rfl)))
end ref25_Right
def s_ref25_Right (a : ((Int) × ((List (List UInt8)) × ((List (Int)) × (List ((Int) × (Int)))))) × ((Int) × (Unit))) : Option ((Bool) × (Unit)) := ref25_Right.p0 (fuel) a.1 a.2.1
noncomputable def F_ref25_Right : FSpec cx.toNm := { ps := [.val (.agg (.pair (.int .i64) (.pair (.slice 9 .str) (.pair (.slice 3 (.int .i64)) (.slice 33 (.agg (.pair (.int .i64) (.int .i64)))))))), .val (.int .i64)], nres := 1, rt := .bool, rm := .ro, f := s_ref25_Right }
theorem w_ref25_Right (a : ((Int) × ((List (List UInt8)) × ((List (Int)) × (List ((Int) × (Int)))))) × ((Int) × (Unit))) : runOf (S := cx) ref25_Right.E ref25_Right.h (fuel) Try.f23 F_ref25_Right.ps F_ref25_Right.rt F_ref25_Right.rm a = F_ref25_Right.f a := Eq.trans (b := ref25_Right.u0 (fuel) a.1 a.2.1) (by kernel_rfl) (Eq.trans (b := ref25_Right.p0 (fuel) a.1 a.2.1) (congrFun (congrFun (ref25_Right.o0 (fuel)) a.1) a.2.1) (by kernel_rfl))
theorem ok_ref25_Right : FnOk Try.prog F_ref25_Right 23 := fn_of (hn := ref25_Right.h) (E := ref25_Right.E) cxOk (tysT _) fs_nil follows Try.func23 (by kernel_rfl) (fun a r h => ⟨fuel, Eq.trans (w_ref25_Right a) h⟩)
namespace ref25_Same
noncomputable def E : Env cx := { tys := tys, fs := fsOf [] }
abbrev R := Option ((Bool) × (Unit))
abbrev C := Exit → ST cx → R
noncomputable def b : Code := bodyC Try.f25
noncomputable def h : Hint := { vs := [0, 1, 2, 3, 4, 5, 6, 7], nil := [], cuts := [(2, ([2, 3, 39], [2, 3]), ([2, 3], [2, 3])), (3, ([2, 3], [2, 3]), ([2, 3], [2, 3])), (4, ([2, 3, 5], [2, 3]), ([2, 3], [2, 3])), (8, ([2, 3], [2, 3]), ([2, 3], [2, 3])), (9, ([2, 3, 6], [2, 3]), ([2, 3], [2, 3])), (13, ([2, 3], [2, 3]), ([2, 3], [2, 3])), (14, ([2, 3, 7], [2, 3]), ([], [])), (18, ([], []), ([], []))], ret := ([4], [2, 3]), ords := [] }
noncomputable def K0 : C := fin (S := cx) E Try.f25.results.toList .bool .ro [] []
noncomputable def c0 : Code := subC b [1]
noncomputable def K1 (k : Nat) : C := outD h c0 K0
noncomputable def K2 (k : Nat) : C := seqC E h k c0 K0
noncomputable def c1 : Code := subC b [1, 1]
noncomputable def K3 (k : Nat) : C := outD h c1 (K1 k)
noncomputable def K4 (k : Nat) : C := seqC E h k c1 (K1 k)
noncomputable def c2 : Code := subC b [1, 0, 1]
noncomputable def K5 (k : Nat) : C := outD h c2 (K4 k)
noncomputable def K6 (k : Nat) : C := seqC E h k c2 (K4 k)
noncomputable def c3 : Code := subC b [1, 0, 1, 0, 1]
noncomputable def K7 (k : Nat) : C := outD h c3 (K5 k)
noncomputable def K8 (k : Nat) : C := seqC E h k c3 (K5 k)
noncomputable def c4 : Code := subC b [1, 1, 1]
noncomputable def K9 (k : Nat) : C := outD h c4 (K3 k)
noncomputable def K10 (k : Nat) : C := seqC E h k c4 (K3 k)
noncomputable def c5 : Code := subC b [1, 1, 0, 1]
noncomputable def K11 (k : Nat) : C := outD h c5 (K10 k)
noncomputable def K12 (k : Nat) : C := seqC E h k c5 (K10 k)
noncomputable def K13 (k : Nat) : C := blockK 0 (K11 k)
noncomputable def c6 : Code := subC b [1, 1, 0, 1, 0, 0]
noncomputable def K14 (k n3 : Nat) : C := loopD E h k c6 (K13 k) n3
noncomputable def c7 : Code := subC b [1, 1, 0, 1, 0, 0, 1]
noncomputable def K15 (k n3 : Nat) : C := outD h c7 (K14 k n3)
noncomputable def K16 (k n3 : Nat) : C := seqC E h k c7 (K14 k n3)
noncomputable def c8 : Code := subC b [1, 1, 0, 1, 0, 0, 0, 1]
noncomputable def K17 (k n3 : Nat) : C := outD h c8 (K16 k n3)
noncomputable def K18 (k n3 : Nat) : C := seqC E h k c8 (K16 k n3)
noncomputable def c9 : Code := subC b [1, 1, 0, 1, 0, 0, 1, 1]
noncomputable def K19 (k n3 : Nat) : C := outD h c9 (K15 k n3)
noncomputable def K20 (k n3 : Nat) : C := seqC E h k c9 (K15 k n3)
noncomputable def K21 (k n3 : Nat) : C := blockK 1 (K20 k n3)
noncomputable def c10 : Code := subC b [1, 1, 0, 1, 0, 0, 1, 0, 0, 1]
noncomputable def K22 (k n3 : Nat) : C := outD h c10 (K21 k n3)
noncomputable def K23 (k n3 : Nat) : C := seqC E h k c10 (K21 k n3)
noncomputable def c11 : Code := subC b [1, 1, 0, 1, 0, 0, 1, 0, 0, 1, 0, 1]
noncomputable def K24 (k n3 : Nat) : C := outD h c11 (K22 k n3)
noncomputable def K25 (k n3 : Nat) : C := seqC E h k c11 (K22 k n3)
noncomputable def c12 : Code := subC b [1, 1, 1, 1]
noncomputable def K26 (k : Nat) : C := outD h c12 (K9 k)
noncomputable def K27 (k : Nat) : C := seqC E h k c12 (K9 k)
noncomputable def c13 : Code := subC b [1, 1, 1, 0, 1]
noncomputable def K28 (k : Nat) : C := outD h c13 (K27 k)
noncomputable def K29 (k : Nat) : C := seqC E h k c13 (K27 k)
noncomputable def K30 (k : Nat) : C := blockK 2 (K28 k)
noncomputable def c14 : Code := subC b [1, 1, 1, 0, 1, 0, 0]
noncomputable def K31 (k n5 : Nat) : C := loopD E h k c14 (K30 k) n5
noncomputable def c15 : Code := subC b [1, 1, 1, 0, 1, 0, 0, 1]
noncomputable def K32 (k n5 : Nat) : C := outD h c15 (K31 k n5)
noncomputable def K33 (k n5 : Nat) : C := seqC E h k c15 (K31 k n5)
noncomputable def c16 : Code := subC b [1, 1, 1, 0, 1, 0, 0, 0, 1]
noncomputable def K34 (k n5 : Nat) : C := outD h c16 (K33 k n5)
noncomputable def K35 (k n5 : Nat) : C := seqC E h k c16 (K33 k n5)
noncomputable def c17 : Code := subC b [1, 1, 1, 0, 1, 0, 0, 1, 1]
noncomputable def K36 (k n5 : Nat) : C := outD h c17 (K32 k n5)
noncomputable def K37 (k n5 : Nat) : C := seqC E h k c17 (K32 k n5)
noncomputable def K38 (k n5 : Nat) : C := blockK 3 (K37 k n5)
noncomputable def c18 : Code := subC b [1, 1, 1, 0, 1, 0, 0, 1, 0, 0, 1]
noncomputable def K39 (k n5 : Nat) : C := outD h c18 (K38 k n5)
noncomputable def K40 (k n5 : Nat) : C := seqC E h k c18 (K38 k n5)
noncomputable def c19 : Code := subC b [1, 1, 1, 0, 1, 0, 0, 1, 0, 0, 1, 0, 1]
noncomputable def K41 (k n5 : Nat) : C := outD h c19 (K39 k n5)
noncomputable def K42 (k n5 : Nat) : C := seqC E h k c19 (K39 k n5)
noncomputable def c20 : Code := subC b [1, 1, 1, 1, 1]
noncomputable def K43 (k : Nat) : C := outD h c20 (K26 k)
noncomputable def K44 (k : Nat) : C := seqC E h k c20 (K26 k)
noncomputable def c21 : Code := subC b [1, 1, 1, 1, 0, 1]
noncomputable def K45 (k : Nat) : C := outD h c21 (K44 k)
noncomputable def K46 (k : Nat) : C := seqC E h k c21 (K44 k)
noncomputable def K47 (k : Nat) : C := blockK 4 (K45 k)
noncomputable def c22 : Code := subC b [1, 1, 1, 1, 0, 1, 0, 0]
noncomputable def K48 (k n7 : Nat) : C := loopD E h k c22 (K47 k) n7
noncomputable def c23 : Code := subC b [1, 1, 1, 1, 0, 1, 0, 0, 1]
noncomputable def K49 (k n7 : Nat) : C := outD h c23 (K48 k n7)
noncomputable def K50 (k n7 : Nat) : C := seqC E h k c23 (K48 k n7)
noncomputable def c24 : Code := subC b [1, 1, 1, 1, 0, 1, 0, 0, 0, 1]
noncomputable def K51 (k n7 : Nat) : C := outD h c24 (K50 k n7)
noncomputable def K52 (k n7 : Nat) : C := seqC E h k c24 (K50 k n7)
noncomputable def c25 : Code := subC b [1, 1, 1, 1, 0, 1, 0, 0, 1, 1]
noncomputable def K53 (k n7 : Nat) : C := outD h c25 (K49 k n7)
noncomputable def K54 (k n7 : Nat) : C := seqC E h k c25 (K49 k n7)
noncomputable def K55 (k n7 : Nat) : C := blockK 5 (K54 k n7)
noncomputable def c26 : Code := subC b [1, 1, 1, 1, 0, 1, 0, 0, 1, 0, 0, 1]
noncomputable def K56 (k n7 : Nat) : C := outD h c26 (K55 k n7)
noncomputable def K57 (k n7 : Nat) : C := seqC E h k c26 (K55 k n7)
noncomputable def c27 : Code := subC b [1, 1, 1, 1, 0, 1, 0, 0, 1, 0, 0, 1, 0, 1]
noncomputable def K58 (k n7 : Nat) : C := outD h c27 (K56 k n7)
noncomputable def K59 (k n7 : Nat) : C := seqC E h k c27 (K56 k n7)
noncomputable def c28 : Code := subC b [1, 1, 1, 1, 1, 1]
noncomputable def K60 (k : Nat) : C := outD h c28 (K43 k)
noncomputable def K61 (k : Nat) : C := seqC E h k c28 (K43 k)
abbrev T8 := R
abbrev T7 := Int → ((Int) × ((List (List UInt8)) × ((List (Int)) × (List ((Int) × (Int)))))) → ((Int) × ((List (List UInt8)) × ((List (Int)) × (List ((Int) × (Int)))))) → R
abbrev T6 := ((Int) × ((List (List UInt8)) × ((List (Int)) × (List ((Int) × (Int)))))) → ((Int) × ((List (List UInt8)) × ((List (Int)) × (List ((Int) × (Int)))))) → R
abbrev T5 := Int → ((Int) × ((List (List UInt8)) × ((List (Int)) × (List ((Int) × (Int)))))) → ((Int) × ((List (List UInt8)) × ((List (Int)) × (List ((Int) × (Int)))))) → R
abbrev T4 := ((Int) × ((List (List UInt8)) × ((List (Int)) × (List ((Int) × (Int)))))) → ((Int) × ((List (List UInt8)) × ((List (Int)) × (List ((Int) × (Int)))))) → R
abbrev T3 := Int → ((Int) × ((List (List UInt8)) × ((List (Int)) × (List ((Int) × (Int)))))) → ((Int) × ((List (List UInt8)) × ((List (Int)) × (List ((Int) × (Int)))))) → R
abbrev T2 := ((Int) × ((List (List UInt8)) × ((List (Int)) × (List ((Int) × (Int)))))) → ((Int) × ((List (List UInt8)) × ((List (Int)) × (List ((Int) × (Int)))))) → R
abbrev T1 := Bool → ((Int) × ((List (List UInt8)) × ((List (Int)) × (List ((Int) × (Int)))))) → ((Int) × ((List (List UInt8)) × ((List (Int)) × (List ((Int) × (Int)))))) → R
abbrev T0 := ((Int) × ((List (List UInt8)) × ((List (Int)) × (List ((Int) × (Int)))))) → ((Int) × ((List (List UInt8)) × ((List (Int)) × (List ((Int) × (Int)))))) → R
abbrev s8 : ST cx := ({ vars := [], scr := [], mems := [] } : ST cx)
noncomputable def u8 (k : Nat) : T8 := uK (run E h k c20) s8 (K43 k)
noncomputable abbrev l8 (k : Nat) : T8 := cutK (run E h k c20) s8 (K43 k)
abbrev s7 : Int → ((Int) × ((List (List UInt8)) × ((List (Int)) × (List ((Int) × (Int)))))) → ((Int) × ((List (List UInt8)) × ((List (Int)) × (List ((Int) × (Int)))))) → ST cx := fun (x7 : Int) (m2 m3 : (Int) × ((List (List UInt8)) × ((List (Int)) × (List ((Int) × (Int)))))) => ({ vars := [(2, .addr (.mem 2) []), (3, .addr (.mem 3) []), (7, .v (.int .i64) .ro x7)], scr := [], mems := [(2, ⟨(.agg (.pair (.int .i64) (.pair (.slice 9 .str) (.pair (.slice 3 (.int .i64)) (.slice 33 (.agg (.pair (.int .i64) (.int .i64)))))))), .ro, m2⟩), (3, ⟨(.agg (.pair (.int .i64) (.pair (.slice 9 .str) (.pair (.slice 3 (.int .i64)) (.slice 33 (.agg (.pair (.int .i64) (.int .i64)))))))), .ro, m3⟩)] } : ST cx)
noncomputable def u7 (k n7 : Nat) : T7 := fun (x7 : Int) (m2 m3 : (Int) × ((List (List UInt8)) × ((List (Int)) × (List ((Int) × (Int)))))) => uK (loopL E h k c22 (K47 k) n7) (s7 x7 m2 m3) ()
noncomputable abbrev l7 (k n7 : Nat) : T7 := fun (x7 : Int) (m2 m3 : (Int) × ((List (List UInt8)) × ((List (Int)) × (List ((Int) × (Int)))))) => cutK (loopL E h k c22 (K47 k) n7) (s7 x7 m2 m3) ()
abbrev s6 : ((Int) × ((List (List UInt8)) × ((List (Int)) × (List ((Int) × (Int)))))) → ((Int) × ((List (List UInt8)) × ((List (Int)) × (List ((Int) × (Int)))))) → ST cx := fun (m2 m3 : (Int) × ((List (List UInt8)) × ((List (Int)) × (List ((Int) × (Int)))))) => ({ vars := [(2, .addr (.mem 2) []), (3, .addr (.mem 3) [])], scr := [], mems := [(2, ⟨(.agg (.pair (.int .i64) (.pair (.slice 9 .str) (.pair (.slice 3 (.int .i64)) (.slice 33 (.agg (.pair (.int .i64) (.int .i64)))))))), .ro, m2⟩), (3, ⟨(.agg (.pair (.int .i64) (.pair (.slice 9 .str) (.pair (.slice 3 (.int .i64)) (.slice 33 (.agg (.pair (.int .i64) (.int .i64)))))))), .ro, m3⟩)] } : ST cx)
noncomputable def u6 (k : Nat) : T6 := fun (m2 m3 : (Int) × ((List (List UInt8)) × ((List (Int)) × (List ((Int) × (Int)))))) => uK (run E h k c12) (s6 m2 m3) (K26 k)
noncomputable abbrev l6 (k : Nat) : T6 := fun (m2 m3 : (Int) × ((List (List UInt8)) × ((List (Int)) × (List ((Int) × (Int)))))) => cutK (run E h k c12) (s6 m2 m3) (K26 k)
abbrev s5 : Int → ((Int) × ((List (List UInt8)) × ((List (Int)) × (List ((Int) × (Int)))))) → ((Int) × ((List (List UInt8)) × ((List (Int)) × (List ((Int) × (Int)))))) → ST cx := fun (x6 : Int) (m2 m3 : (Int) × ((List (List UInt8)) × ((List (Int)) × (List ((Int) × (Int)))))) => ({ vars := [(2, .addr (.mem 2) []), (3, .addr (.mem 3) []), (6, .v (.int .i64) .ro x6)], scr := [], mems := [(2, ⟨(.agg (.pair (.int .i64) (.pair (.slice 9 .str) (.pair (.slice 3 (.int .i64)) (.slice 33 (.agg (.pair (.int .i64) (.int .i64)))))))), .ro, m2⟩), (3, ⟨(.agg (.pair (.int .i64) (.pair (.slice 9 .str) (.pair (.slice 3 (.int .i64)) (.slice 33 (.agg (.pair (.int .i64) (.int .i64)))))))), .ro, m3⟩)] } : ST cx)
noncomputable def u5 (k n5 : Nat) : T5 := fun (x6 : Int) (m2 m3 : (Int) × ((List (List UInt8)) × ((List (Int)) × (List ((Int) × (Int)))))) => uK (loopL E h k c14 (K30 k) n5) (s5 x6 m2 m3) ()
noncomputable abbrev l5 (k n5 : Nat) : T5 := fun (x6 : Int) (m2 m3 : (Int) × ((List (List UInt8)) × ((List (Int)) × (List ((Int) × (Int)))))) => cutK (loopL E h k c14 (K30 k) n5) (s5 x6 m2 m3) ()
abbrev s4 : ((Int) × ((List (List UInt8)) × ((List (Int)) × (List ((Int) × (Int)))))) → ((Int) × ((List (List UInt8)) × ((List (Int)) × (List ((Int) × (Int)))))) → ST cx := fun (m2 m3 : (Int) × ((List (List UInt8)) × ((List (Int)) × (List ((Int) × (Int)))))) => ({ vars := [(2, .addr (.mem 2) []), (3, .addr (.mem 3) [])], scr := [], mems := [(2, ⟨(.agg (.pair (.int .i64) (.pair (.slice 9 .str) (.pair (.slice 3 (.int .i64)) (.slice 33 (.agg (.pair (.int .i64) (.int .i64)))))))), .ro, m2⟩), (3, ⟨(.agg (.pair (.int .i64) (.pair (.slice 9 .str) (.pair (.slice 3 (.int .i64)) (.slice 33 (.agg (.pair (.int .i64) (.int .i64)))))))), .ro, m3⟩)] } : ST cx)
noncomputable def u4 (k : Nat) : T4 := fun (m2 m3 : (Int) × ((List (List UInt8)) × ((List (Int)) × (List ((Int) × (Int)))))) => uK (run E h k c4) (s4 m2 m3) (K9 k)
noncomputable abbrev l4 (k : Nat) : T4 := fun (m2 m3 : (Int) × ((List (List UInt8)) × ((List (Int)) × (List ((Int) × (Int)))))) => cutK (run E h k c4) (s4 m2 m3) (K9 k)
abbrev s3 : Int → ((Int) × ((List (List UInt8)) × ((List (Int)) × (List ((Int) × (Int)))))) → ((Int) × ((List (List UInt8)) × ((List (Int)) × (List ((Int) × (Int)))))) → ST cx := fun (x5 : Int) (m2 m3 : (Int) × ((List (List UInt8)) × ((List (Int)) × (List ((Int) × (Int)))))) => ({ vars := [(2, .addr (.mem 2) []), (3, .addr (.mem 3) []), (5, .v (.int .i64) .ro x5)], scr := [], mems := [(2, ⟨(.agg (.pair (.int .i64) (.pair (.slice 9 .str) (.pair (.slice 3 (.int .i64)) (.slice 33 (.agg (.pair (.int .i64) (.int .i64)))))))), .ro, m2⟩), (3, ⟨(.agg (.pair (.int .i64) (.pair (.slice 9 .str) (.pair (.slice 3 (.int .i64)) (.slice 33 (.agg (.pair (.int .i64) (.int .i64)))))))), .ro, m3⟩)] } : ST cx)
noncomputable def u3 (k n3 : Nat) : T3 := fun (x5 : Int) (m2 m3 : (Int) × ((List (List UInt8)) × ((List (Int)) × (List ((Int) × (Int)))))) => uK (loopL E h k c6 (K13 k) n3) (s3 x5 m2 m3) ()
noncomputable abbrev l3 (k n3 : Nat) : T3 := fun (x5 : Int) (m2 m3 : (Int) × ((List (List UInt8)) × ((List (Int)) × (List ((Int) × (Int)))))) => cutK (loopL E h k c6 (K13 k) n3) (s3 x5 m2 m3) ()
abbrev s2 : ((Int) × ((List (List UInt8)) × ((List (Int)) × (List ((Int) × (Int)))))) → ((Int) × ((List (List UInt8)) × ((List (Int)) × (List ((Int) × (Int)))))) → ST cx := fun (m2 m3 : (Int) × ((List (List UInt8)) × ((List (Int)) × (List ((Int) × (Int)))))) => ({ vars := [(2, .addr (.mem 2) []), (3, .addr (.mem 3) [])], scr := [], mems := [(2, ⟨(.agg (.pair (.int .i64) (.pair (.slice 9 .str) (.pair (.slice 3 (.int .i64)) (.slice 33 (.agg (.pair (.int .i64) (.int .i64)))))))), .ro, m2⟩), (3, ⟨(.agg (.pair (.int .i64) (.pair (.slice 9 .str) (.pair (.slice 3 (.int .i64)) (.slice 33 (.agg (.pair (.int .i64) (.int .i64)))))))), .ro, m3⟩)] } : ST cx)
noncomputable def u2 (k : Nat) : T2 := fun (m2 m3 : (Int) × ((List (List UInt8)) × ((List (Int)) × (List ((Int) × (Int)))))) => uK (run E h k c1) (s2 m2 m3) (K3 k)
noncomputable abbrev l2 (k : Nat) : T2 := fun (m2 m3 : (Int) × ((List (List UInt8)) × ((List (Int)) × (List ((Int) × (Int)))))) => cutK (run E h k c1) (s2 m2 m3) (K3 k)
abbrev s1 : Bool → ((Int) × ((List (List UInt8)) × ((List (Int)) × (List ((Int) × (Int)))))) → ((Int) × ((List (List UInt8)) × ((List (Int)) × (List ((Int) × (Int)))))) → ST cx := fun (x39 : Bool) (m2 m3 : (Int) × ((List (List UInt8)) × ((List (Int)) × (List ((Int) × (Int)))))) => ({ vars := [(2, .addr (.mem 2) []), (3, .addr (.mem 3) []), (39, .v .bool .ro x39)], scr := [], mems := [(2, ⟨(.agg (.pair (.int .i64) (.pair (.slice 9 .str) (.pair (.slice 3 (.int .i64)) (.slice 33 (.agg (.pair (.int .i64) (.int .i64)))))))), .ro, m2⟩), (3, ⟨(.agg (.pair (.int .i64) (.pair (.slice 9 .str) (.pair (.slice 3 (.int .i64)) (.slice 33 (.agg (.pair (.int .i64) (.int .i64)))))))), .ro, m3⟩)] } : ST cx)
noncomputable def u1 (k : Nat) : T1 := fun (x39 : Bool) (m2 m3 : (Int) × ((List (List UInt8)) × ((List (Int)) × (List ((Int) × (Int)))))) => uK (run E h k c2) (s1 x39 m2 m3) (K5 k)
noncomputable abbrev l1 (k : Nat) : T1 := fun (x39 : Bool) (m2 m3 : (Int) × ((List (List UInt8)) × ((List (Int)) × (List ((Int) × (Int)))))) => cutK (run E h k c2) (s1 x39 m2 m3) (K5 k)
noncomputable def u0 (k : Nat) : T0 := fun (x0 x1 : (Int) × ((List (List UInt8)) × ((List (Int)) × (List ((Int) × (Int)))))) => runOf (S := cx) E h k Try.f25 [.val (.agg (.pair (.int .i64) (.pair (.slice 9 .str) (.pair (.slice 3 (.int .i64)) (.slice 33 (.agg (.pair (.int .i64) (.int .i64)))))))), .val (.agg (.pair (.int .i64) (.pair (.slice 9 .str) (.pair (.slice 3 (.int .i64)) (.slice 33 (.agg (.pair (.int .i64) (.int .i64))))))))] .bool .ro (x0, x1, ())
def t8 : T8 := 
  (some (true, ()))
theorem e8 (k : Nat) : u8 k = t8 := by kernel_rfl
theorem g8 (k : Nat) : l8 k = u8 k := cut_u _ _ _
def p8 (k : Nat) : T8 := t8
theorem o8 (k : Nat) : l8 k = p8 k := (Eq.trans (b := u8 k) (g8 k) (Eq.trans (b := t8) (e8 k) (by kernel_rfl)))
def t7 (f7 : T7) (f8 : T8) : T7 := fun (x7 : Int) (m2 m3 : (Int) × ((List (List UInt8)) × ((List (Int)) × (List ((Int) × (Int)))))) => 
  (iteB (decide (x7 < ((List.length m2.2.2.2 : Nat) : Int))) (withinR x7 (List.length m2.2.2.2) fun q5 => (withinR x7 (List.length m3.2.2.2) fun q6 => (iteB (!((decide ((List.getD m2.2.2.2 q5 ((0 : Int), (0 : Int))).1 = (List.getD m3.2.2.2 q6 ((0 : Int), (0 : Int))).1)) && (decide ((List.getD m2.2.2.2 q5 ((0 : Int), (0 : Int))).2 = (List.getD m3.2.2.2 q6 ((0 : Int), (0 : Int))).2)))) (some (false, ())) (f7 (w64 (x7 + (1 : Int))) m2 m3)))) f8)
theorem e7 (k n7 : Nat) : u7 k (n7 + 1) = t7 (l7 k n7) (l8 k) := by kernel_rfl
theorem g7 (k n7 : Nat) : l7 k (n7 + 1) = u7 k (n7 + 1) := funext fun _ => funext fun _ => funext fun _ => cut_u _ _ _
theorem d7 {x7 y7 : T7} {x8 y8 : T8} (h7 : x7 = y7) (h8 : x8 = y8) : t7 x7 x8 = t7 y7 y8 := by subst h7; subst h8; rfl
def p7 (k : Nat) : Nat → T7
  | 0 => fun _ _ _ => none
  | n7 + 1 => t7 (p7 k n7) (p8 k)
theorem o7 (k : Nat) : ∀ n7, l7 k n7 = p7 k n7 := by
  intro n7
  induction n7 with
  | zero => kernel_rfl
  | succ n7 ih => exact (Eq.trans (b := u7 k (n7 + 1)) (g7 k n7) (Eq.trans (b := t7 (l7 k n7) (l8 k)) (e7 k n7) (Eq.trans (b := t7 (p7 k n7) (p8 k)) (d7 ih (o8 k)) (by kernel_rfl))))
def t6 (f7 : T7) : T6 := fun (m2 m3 : (Int) × ((List (List UInt8)) × ((List (Int)) × (List ((Int) × (Int)))))) => 
  (f7 (0 : Int) m2 m3)
theorem e6 (k : Nat) : u6 k = t6 (l7 k k) := by kernel_rfl
theorem g6 (k : Nat) : l6 k = u6 k := funext fun _ => funext fun _ => cut_u _ _ _
theorem d6 {x7 y7 : T7} (h7 : x7 = y7) : t6 x7 = t6 y7 := by subst h7; rfl
def p6 (k : Nat) : T6 := t6 (p7 k k)
theorem o6 (k : Nat) : l6 k = p6 k := (Eq.trans (b := u6 k) (g6 k) (Eq.trans (b := t6 (l7 k k)) (e6 k) (Eq.trans (b := t6 (p7 k k)) (d6 (o7 k k)) (by kernel_rfl))))
def t5 (f5 : T5) (f6 : T6) : T5 := fun (x6 : Int) (m2 m3 : (Int) × ((List (List UInt8)) × ((List (Int)) × (List ((Int) × (Int)))))) => 
  (iteB (decide (x6 < ((List.length m2.2.2.1 : Nat) : Int))) (withinR x6 (List.length m2.2.2.1) fun q3 => (withinR x6 (List.length m3.2.2.1) fun q4 => (iteB (!decide ((List.getD m2.2.2.1 q3 (0 : Int)) = (List.getD m3.2.2.1 q4 (0 : Int)))) (some (false, ())) (f5 (w64 (x6 + (1 : Int))) m2 m3)))) (f6 m2 m3))
theorem e5 (k n5 : Nat) : u5 k (n5 + 1) = t5 (l5 k n5) (l6 k) := by kernel_rfl
theorem g5 (k n5 : Nat) : l5 k (n5 + 1) = u5 k (n5 + 1) := funext fun _ => funext fun _ => funext fun _ => cut_u _ _ _
theorem d5 {x5 y5 : T5} {x6 y6 : T6} (h5 : x5 = y5) (h6 : x6 = y6) : t5 x5 x6 = t5 y5 y6 := by subst h5; subst h6; rfl
def p5 (k : Nat) : Nat → T5
  | 0 => fun _ _ _ => none
  | n5 + 1 => t5 (p5 k n5) (p6 k)
theorem o5 (k : Nat) : ∀ n5, l5 k n5 = p5 k n5 := by
  intro n5
  induction n5 with
  | zero => kernel_rfl
  | succ n5 ih => exact (Eq.trans (b := u5 k (n5 + 1)) (g5 k n5) (Eq.trans (b := t5 (l5 k n5) (l6 k)) (e5 k n5) (Eq.trans (b := t5 (p5 k n5) (p6 k)) (d5 ih (o6 k)) (by kernel_rfl))))
def t4 (f5 : T5) : T4 := fun (m2 m3 : (Int) × ((List (List UInt8)) × ((List (Int)) × (List ((Int) × (Int)))))) => 
  (f5 (0 : Int) m2 m3)
theorem e4 (k : Nat) : u4 k = t4 (l5 k k) := by kernel_rfl
theorem g4 (k : Nat) : l4 k = u4 k := funext fun _ => funext fun _ => cut_u _ _ _
theorem d4 {x5 y5 : T5} (h5 : x5 = y5) : t4 x5 = t4 y5 := by subst h5; rfl
def p4 (k : Nat) : T4 := t4 (p5 k k)
theorem o4 (k : Nat) : l4 k = p4 k := (Eq.trans (b := u4 k) (g4 k) (Eq.trans (b := t4 (l5 k k)) (e4 k) (Eq.trans (b := t4 (p5 k k)) (d4 (o5 k k)) (by kernel_rfl))))
def t3 (f3 : T3) (f4 : T4) : T3 := fun (x5 : Int) (m2 m3 : (Int) × ((List (List UInt8)) × ((List (Int)) × (List ((Int) × (Int)))))) => 
  (iteB (decide (x5 < ((List.length m2.2.1 : Nat) : Int))) (withinR x5 (List.length m2.2.1) fun q1 => (withinR x5 (List.length m3.2.1) fun q2 => (iteB (!(decide ((List.getD m2.2.1 q1 ([] : List UInt8)) = (List.getD m3.2.1 q2 ([] : List UInt8))))) (some (false, ())) (f3 (w64 (x5 + (1 : Int))) m2 m3)))) (f4 m2 m3))
theorem e3 (k n3 : Nat) : u3 k (n3 + 1) = t3 (l3 k n3) (l4 k) := by kernel_rfl
theorem g3 (k n3 : Nat) : l3 k (n3 + 1) = u3 k (n3 + 1) := funext fun _ => funext fun _ => funext fun _ => cut_u _ _ _
theorem d3 {x3 y3 : T3} {x4 y4 : T4} (h3 : x3 = y3) (h4 : x4 = y4) : t3 x3 x4 = t3 y3 y4 := by subst h3; subst h4; rfl
def p3 (k : Nat) : Nat → T3
  | 0 => fun _ _ _ => none
  | n3 + 1 => t3 (p3 k n3) (p4 k)
theorem o3 (k : Nat) : ∀ n3, l3 k n3 = p3 k n3 := by
  intro n3
  induction n3 with
  | zero => kernel_rfl
  | succ n3 ih => exact (Eq.trans (b := u3 k (n3 + 1)) (g3 k n3) (Eq.trans (b := t3 (l3 k n3) (l4 k)) (e3 k n3) (Eq.trans (b := t3 (p3 k n3) (p4 k)) (d3 ih (o4 k)) (by kernel_rfl))))
def t2 (f3 : T3) : T2 := fun (m2 m3 : (Int) × ((List (List UInt8)) × ((List (Int)) × (List ((Int) × (Int)))))) => 
  (f3 (0 : Int) m2 m3)
theorem e2 (k : Nat) : u2 k = t2 (l3 k k) := by kernel_rfl
theorem g2 (k : Nat) : l2 k = u2 k := funext fun _ => funext fun _ => cut_u _ _ _
theorem d2 {x3 y3 : T3} (h3 : x3 = y3) : t2 x3 = t2 y3 := by subst h3; rfl
def p2 (k : Nat) : T2 := t2 (p3 k k)
theorem o2 (k : Nat) : l2 k = p2 k := (Eq.trans (b := u2 k) (g2 k) (Eq.trans (b := t2 (l3 k k)) (e2 k) (Eq.trans (b := t2 (p3 k k)) (d2 (o3 k k)) (by kernel_rfl))))
def t1 (f2 : T2) : T1 := fun (x39 : Bool) (m2 m3 : (Int) × ((List (List UInt8)) × ((List (Int)) × (List ((Int) × (Int)))))) => 
  (iteB x39 (some (false, ())) (f2 m2 m3))
theorem e1 (k : Nat) : u1 k = t1 (l2 k) := by kernel_rfl
theorem g1 (k : Nat) : l1 k = u1 k := funext fun _ => funext fun _ => funext fun _ => cut_u _ _ _
theorem d1 {x2 y2 : T2} (h2 : x2 = y2) : t1 x2 = t1 y2 := by subst h2; rfl
def p1 (k : Nat) : T1 := t1 (p2 k)
theorem o1 (k : Nat) : l1 k = p1 k := (Eq.trans (b := u1 k) (g1 k) (Eq.trans (b := t1 (l2 k)) (e1 k) (Eq.trans (b := t1 (p2 k)) (d1 (o2 k)) (by kernel_rfl))))
def t0 (f1 : T1) : T0 := fun (x0 x1 : (Int) × ((List (List UInt8)) × ((List (Int)) × (List ((Int) × (Int)))))) => 
  (iteB (!decide (x0.1 = x1.1)) (f1 true x0 x1) (iteB (!decide (((List.length x0.2.1 : Nat) : Int) = ((List.length x1.2.1 : Nat) : Int))) (f1 true x0 x1) (iteB (!decide (((List.length x0.2.2.1 : Nat) : Int) = ((List.length x1.2.2.1 : Nat) : Int))) (f1 true x0 x1) (f1 (!decide (((List.length x0.2.2.2 : Nat) : Int) = ((List.length x1.2.2.2 : Nat) : Int))) x0 x1))))
theorem e0 (k : Nat) : u0 k = t0 (l1 k) := by kernel_rfl
theorem d0 {x1 y1 : T1} (h1 : x1 = y1) : t0 x1 = t0 y1 := by subst h1; rfl
def p0 (k : Nat) : T0 := t0 (p1 k)
theorem o0 (k : Nat) : u0 k = p0 k := (Eq.trans (b := t0 (l1 k)) (e0 k) (Eq.trans (b := t0 (p1 k)) (d0 (o1 k)) (by kernel_rfl)))
end ref25_Same
def s_ref25_Same (a : ((Int) × ((List (List UInt8)) × ((List (Int)) × (List ((Int) × (Int)))))) × (((Int) × ((List (List UInt8)) × ((List (Int)) × (List ((Int) × (Int)))))) × (Unit))) : Option ((Bool) × (Unit)) := ref25_Same.p0 (fuel) a.1 a.2.1
noncomputable def F_ref25_Same : FSpec cx.toNm := { ps := [.val (.agg (.pair (.int .i64) (.pair (.slice 9 .str) (.pair (.slice 3 (.int .i64)) (.slice 33 (.agg (.pair (.int .i64) (.int .i64)))))))), .val (.agg (.pair (.int .i64) (.pair (.slice 9 .str) (.pair (.slice 3 (.int .i64)) (.slice 33 (.agg (.pair (.int .i64) (.int .i64))))))))], nres := 1, rt := .bool, rm := .ro, f := s_ref25_Same }
theorem w_ref25_Same (a : ((Int) × ((List (List UInt8)) × ((List (Int)) × (List ((Int) × (Int)))))) × (((Int) × ((List (List UInt8)) × ((List (Int)) × (List ((Int) × (Int)))))) × (Unit))) : runOf (S := cx) ref25_Same.E ref25_Same.h (fuel) Try.f25 F_ref25_Same.ps F_ref25_Same.rt F_ref25_Same.rm a = F_ref25_Same.f a := Eq.trans (b := ref25_Same.u0 (fuel) a.1 a.2.1) (by kernel_rfl) (Eq.trans (b := ref25_Same.p0 (fuel) a.1 a.2.1) (congrFun (congrFun (ref25_Same.o0 (fuel)) a.1) a.2.1) (by kernel_rfl))
theorem ok_ref25_Same : FnOk Try.prog F_ref25_Same 25 := fn_of (hn := ref25_Same.h) (E := ref25_Same.E) cxOk (tysT _) fs_nil follows Try.func25 (by kernel_rfl) (fun a r h => ⟨fuel, Eq.trans (w_ref25_Same a) h⟩)
namespace ref25_Move
noncomputable def E : Env cx := { tys := tys, fs := fsOf [(69, F_ref04_Move)] }
abbrev R := Option (((Int) × ((List (List UInt8)) × ((List (Int)) × (List ((Int) × (Int)))))) × (Unit))
abbrev C := Exit → ST cx → R
noncomputable def b : Code := bodyC Try.f26
noncomputable def h : Hint := { vs := [0, 1, 2, 4, 5, 6, 7, 8, 9], nil := [(5, (.pr .ro (.pr (.own .ro) (.pr (.own .ro) (.own .ro))))), (14, (.pr .ro (.pr (.own .ro) (.pr (.own .ro) (.own .ro)))))], cuts := [(3, ([1, 2, 4, 5, 6], [2, 4, 5]), ([1, 2, 4, 5], [2, 4, 5])), (6, ([1, 2, 4, 5], [2, 4, 5]), ([1, 2, 4, 5], [2, 4, 5])), (7, ([1, 2, 4, 5, 7], [2, 4, 5]), ([1, 2, 4, 5], [2, 4, 5])), (10, ([1, 2, 4, 5], [2, 4, 5]), ([1, 2, 4, 5], [2, 4, 5])), (11, ([1, 2, 4, 5, 8], [2, 4, 5]), ([4, 5], [4, 5])), (12, ([1, 2, 4, 5, 8], [2, 4, 5]), ([1, 2, 4, 5, 8], [2, 4, 5])), (16, ([1, 2, 4, 5, 8, 9], [2, 4, 5, 9]), ([1, 2, 4, 5, 8], [2, 4, 5])), (17, ([4, 5], [4, 5]), ([4, 5], [4, 5]))], ret := ([4], [2, 4, 5, 9]), ords := [], trees := [(13, (.step 0 (.step 1 (.step 2 (.step 3 (.step 4 (.step 5 (.step 6 (.step 8 (.step 9 (.step 10 (.step 11 (.step 12 (.step 13 (.step 14 (.both (.step 7 (.both (.step 15 (.step 16 (.step 17 (.step 18 .done)))) (.step 17 (.step 15 (.step 16 (.step 18 .done)))))) (.step 17 (.step 7 (.step 15 (.step 16 (.step 18 .done)))))))))))))))))))))] }
noncomputable def K0 : C := fin (S := cx) E Try.f26.results.toList (.agg (.pair (.int .i64) (.pair (.slice 9 .str) (.pair (.slice 3 (.int .i64)) (.slice 33 (.agg (.pair (.int .i64) (.int .i64)))))))) .ro [] []
noncomputable def c0 : Code := subC b [1]
noncomputable def K1 (k : Nat) : C := outD h c0 K0
noncomputable def K2 (k : Nat) : C := seqC E h k c0 K0
noncomputable def c1 : Code := subC b [1, 1]
noncomputable def K3 (k : Nat) : C := outD h c1 (K1 k)
noncomputable def K4 (k : Nat) : C := seqC E h k c1 (K1 k)
noncomputable def c2 : Code := subC b [1, 1, 1]
noncomputable def K5 (k : Nat) : C := outD h c2 (K3 k)
noncomputable def K6 (k : Nat) : C := seqC E h k c2 (K3 k)
noncomputable def c3 : Code := subC b [1, 1, 0, 1]
noncomputable def K7 (k : Nat) : C := outD h c3 (K6 k)
noncomputable def K8 (k : Nat) : C := seqC E h k c3 (K6 k)
noncomputable def K9 (k : Nat) : C := blockK 0 (K7 k)
noncomputable def c4 : Code := subC b [1, 1, 0, 1, 0, 0]
noncomputable def K10 (k n1 : Nat) : C := loopD E h k c4 (K9 k) n1
noncomputable def c5 : Code := subC b [1, 1, 0, 1, 0, 0, 1]
noncomputable def K11 (k n1 : Nat) : C := outD h c5 (K10 k n1)
noncomputable def K12 (k n1 : Nat) : C := seqC E h k c5 (K10 k n1)
noncomputable def c6 : Code := subC b [1, 1, 0, 1, 0, 0, 0, 1]
noncomputable def K13 (k n1 : Nat) : C := outD h c6 (K12 k n1)
noncomputable def K14 (k n1 : Nat) : C := seqC E h k c6 (K12 k n1)
noncomputable def c7 : Code := subC b [1, 1, 0, 1, 0, 0, 1, 1]
noncomputable def K15 (k n1 : Nat) : C := outD h c7 (K11 k n1)
noncomputable def K16 (k n1 : Nat) : C := seqC E h k c7 (K11 k n1)
noncomputable def K17 (k n1 : Nat) : C := blockK 1 (K16 k n1)
noncomputable def c8 : Code := subC b [1, 1, 1, 1]
noncomputable def K18 (k : Nat) : C := outD h c8 (K5 k)
noncomputable def K19 (k : Nat) : C := seqC E h k c8 (K5 k)
noncomputable def c9 : Code := subC b [1, 1, 1, 0, 1]
noncomputable def K20 (k : Nat) : C := outD h c9 (K19 k)
noncomputable def K21 (k : Nat) : C := seqC E h k c9 (K19 k)
noncomputable def K22 (k : Nat) : C := blockK 2 (K20 k)
noncomputable def c10 : Code := subC b [1, 1, 1, 0, 1, 0, 0]
noncomputable def K23 (k n3 : Nat) : C := loopD E h k c10 (K22 k) n3
noncomputable def c11 : Code := subC b [1, 1, 1, 0, 1, 0, 0, 1]
noncomputable def K24 (k n3 : Nat) : C := outD h c11 (K23 k n3)
noncomputable def K25 (k n3 : Nat) : C := seqC E h k c11 (K23 k n3)
noncomputable def c12 : Code := subC b [1, 1, 1, 0, 1, 0, 0, 0, 1]
noncomputable def K26 (k n3 : Nat) : C := outD h c12 (K25 k n3)
noncomputable def K27 (k n3 : Nat) : C := seqC E h k c12 (K25 k n3)
noncomputable def c13 : Code := subC b [1, 1, 1, 0, 1, 0, 0, 1, 1]
noncomputable def K28 (k n3 : Nat) : C := outD h c13 (K24 k n3)
noncomputable def K29 (k n3 : Nat) : C := seqC E h k c13 (K24 k n3)
noncomputable def K30 (k n3 : Nat) : C := blockK 3 (K29 k n3)
noncomputable def c14 : Code := subC b [1, 1, 1, 1, 1]
noncomputable def K31 (k : Nat) : C := outD h c14 (K18 k)
noncomputable def K32 (k : Nat) : C := seqC E h k c14 (K18 k)
noncomputable def c15 : Code := subC b [1, 1, 1, 1, 0, 1]
noncomputable def K33 (k : Nat) : C := outD h c15 (K32 k)
noncomputable def K34 (k : Nat) : C := seqC E h k c15 (K32 k)
noncomputable def K35 (k : Nat) : C := blockK 4 (K33 k)
noncomputable def c16 : Code := subC b [1, 1, 1, 1, 0, 1, 0, 0]
noncomputable def K36 (k n5 : Nat) : C := loopD E h k c16 (K35 k) n5
noncomputable def c17 : Code := subC b [1, 1, 1, 1, 0, 1, 0, 0, 1]
noncomputable def K37 (k n5 : Nat) : C := outD h c17 (K36 k n5)
noncomputable def K38 (k n5 : Nat) : C := seqC E h k c17 (K36 k n5)
noncomputable def c18 : Code := subC b [1, 1, 1, 1, 0, 1, 0, 0, 0, 1]
noncomputable def K39 (k n5 : Nat) : C := outD h c18 (K38 k n5)
noncomputable def K40 (k n5 : Nat) : C := seqC E h k c18 (K38 k n5)
noncomputable def c19 : Code := subC b [1, 1, 1, 1, 0, 1, 0, 0, 1, 1]
noncomputable def K41 (k n5 : Nat) : C := outD h c19 (K37 k n5)
noncomputable def K42 (k n5 : Nat) : C := seqC E h k c19 (K37 k n5)
noncomputable def K43 (k n5 : Nat) : C := blockK 5 (K42 k n5)
noncomputable def c20 : Code := subC b [1, 1, 1, 1, 0, 1, 0, 0, 1, 0, 0, 1]
noncomputable def K44 (k n5 : Nat) : C := outD h c20 (K43 k n5)
noncomputable def K45 (k n5 : Nat) : C := seqC E h k c20 (K43 k n5)
noncomputable def c21 : Code := subC b [1, 1, 1, 1, 0, 1, 0, 0, 1, 0, 0, 1, 1]
noncomputable def K46 (k n5 : Nat) : C := outD h c21 (K44 k n5)
noncomputable def K47 (k n5 : Nat) : C := seqC E h k c21 (K44 k n5)
noncomputable def c22 : Code := subC b [1, 1, 1, 1, 0, 1, 0, 0, 1, 0, 0, 1, 0, 1]
noncomputable def K48 (k n5 : Nat) : C := outD h c22 (K47 k n5)
noncomputable def K49 (k n5 : Nat) : C := seqC E h k c22 (K47 k n5)
noncomputable def c23 : Code := subC b [1, 1, 1, 1, 1, 1]
noncomputable def K50 (k : Nat) : C := outD h c23 (K31 k)
noncomputable def K51 (k : Nat) : C := seqC E h k c23 (K31 k)
abbrev T8 := (List ((Int) × ((Int) × (List UInt8)))) → Int → ((Int) × ((List (List UInt8)) × ((List (Int)) × (List ((Int) × (Int)))))) → ((Int) × ((List (List UInt8)) × ((List (Int)) × (List ((Int) × (Int)))))) → ((Int) × ((List (List UInt8)) × ((List (Int)) × (List ((Int) × (Int)))))) → R
abbrev T6 := (List ((Int) × ((Int) × (List UInt8)))) → Int → ((Int) × ((List (List UInt8)) × ((List (Int)) × (List ((Int) × (Int)))))) → ((Int) × ((List (List UInt8)) × ((List (Int)) × (List ((Int) × (Int)))))) → ((Int) × ((List (List UInt8)) × ((List (Int)) × (List ((Int) × (Int)))))) → ((Int) × (Int)) → R
abbrev T7 := ((Int) × ((List (List UInt8)) × ((List (Int)) × (List ((Int) × (Int)))))) → ((Int) × ((List (List UInt8)) × ((List (Int)) × (List ((Int) × (Int)))))) → R
abbrev T5 := (List ((Int) × ((Int) × (List UInt8)))) → Int → ((Int) × ((List (List UInt8)) × ((List (Int)) × (List ((Int) × (Int)))))) → ((Int) × ((List (List UInt8)) × ((List (Int)) × (List ((Int) × (Int)))))) → ((Int) × ((List (List UInt8)) × ((List (Int)) × (List ((Int) × (Int)))))) → R
abbrev T4 := (List ((Int) × ((Int) × (List UInt8)))) → ((Int) × ((List (List UInt8)) × ((List (Int)) × (List ((Int) × (Int)))))) → ((Int) × ((List (List UInt8)) × ((List (Int)) × (List ((Int) × (Int)))))) → ((Int) × ((List (List UInt8)) × ((List (Int)) × (List ((Int) × (Int)))))) → R
abbrev T3 := (List ((Int) × ((Int) × (List UInt8)))) → Int → ((Int) × ((List (List UInt8)) × ((List (Int)) × (List ((Int) × (Int)))))) → ((Int) × ((List (List UInt8)) × ((List (Int)) × (List ((Int) × (Int)))))) → ((Int) × ((List (List UInt8)) × ((List (Int)) × (List ((Int) × (Int)))))) → R
abbrev T2 := (List ((Int) × ((Int) × (List UInt8)))) → ((Int) × ((List (List UInt8)) × ((List (Int)) × (List ((Int) × (Int)))))) → ((Int) × ((List (List UInt8)) × ((List (Int)) × (List ((Int) × (Int)))))) → ((Int) × ((List (List UInt8)) × ((List (Int)) × (List ((Int) × (Int)))))) → R
abbrev T1 := (List ((Int) × ((Int) × (List UInt8)))) → Int → ((Int) × ((List (List UInt8)) × ((List (Int)) × (List ((Int) × (Int)))))) → ((Int) × ((List (List UInt8)) × ((List (Int)) × (List ((Int) × (Int)))))) → ((Int) × ((List (List UInt8)) × ((List (Int)) × (List ((Int) × (Int)))))) → R
abbrev T0 := ((Int) × ((List (List UInt8)) × ((List (Int)) × (List ((Int) × (Int)))))) → (List ((Int) × ((Int) × (List UInt8)))) → R
abbrev s8 : (List ((Int) × ((Int) × (List UInt8)))) → Int → ((Int) × ((List (List UInt8)) × ((List (Int)) × (List ((Int) × (Int)))))) → ((Int) × ((List (List UInt8)) × ((List (Int)) × (List ((Int) × (Int)))))) → ((Int) × ((List (List UInt8)) × ((List (Int)) × (List ((Int) × (Int)))))) → ST cx := fun (x1 : List ((Int) × ((Int) × (List UInt8)))) (x8 : Int) (m2 m4 m5 : (Int) × ((List (List UInt8)) × ((List (Int)) × (List ((Int) × (Int)))))) => ({ vars := [(1, .v (.slice 41 (.agg (.pair (.int .i64) (.pair (.int .i64) .str)))) .ro x1), (2, .addr (.mem 2) []), (4, .addr (.mem 4) []), (5, .addr (.mem 5) []), (8, .v (.int .i64) .ro x8)], scr := [], mems := [(2, ⟨(.agg (.pair (.int .i64) (.pair (.slice 9 .str) (.pair (.slice 3 (.int .i64)) (.slice 33 (.agg (.pair (.int .i64) (.int .i64)))))))), .ro, m2⟩), (4, ⟨(.agg (.pair (.int .i64) (.pair (.slice 9 .str) (.pair (.slice 3 (.int .i64)) (.slice 33 (.agg (.pair (.int .i64) (.int .i64)))))))), .ro, m4⟩), (5, ⟨(.agg (.pair (.int .i64) (.pair (.slice 9 .str) (.pair (.slice 3 (.int .i64)) (.slice 33 (.agg (.pair (.int .i64) (.int .i64)))))))), (.pr .ro (.pr (.own .ro) (.pr (.own .ro) (.own .ro)))), m5⟩)] } : ST cx)
noncomputable def u8 (k n5 : Nat) : T8 := fun (x1 : List ((Int) × ((Int) × (List UInt8)))) (x8 : Int) (m2 m4 m5 : (Int) × ((List (List UInt8)) × ((List (Int)) × (List ((Int) × (Int)))))) => uK (run E h k c19) (s8 x1 x8 m2 m4 m5) (K41 k n5)
noncomputable abbrev l8 (k n5 : Nat) : T8 := fun (x1 : List ((Int) × ((Int) × (List UInt8)))) (x8 : Int) (m2 m4 m5 : (Int) × ((List (List UInt8)) × ((List (Int)) × (List ((Int) × (Int)))))) => cutK (run E h k c19) (s8 x1 x8 m2 m4 m5) (K41 k n5)
abbrev s6 : (List ((Int) × ((Int) × (List UInt8)))) → Int → ((Int) × ((List (List UInt8)) × ((List (Int)) × (List ((Int) × (Int)))))) → ((Int) × ((List (List UInt8)) × ((List (Int)) × (List ((Int) × (Int)))))) → ((Int) × ((List (List UInt8)) × ((List (Int)) × (List ((Int) × (Int)))))) → ((Int) × (Int)) → ST cx := fun (x1 : List ((Int) × ((Int) × (List UInt8)))) (x8 : Int) (m2 m4 m5 : (Int) × ((List (List UInt8)) × ((List (Int)) × (List ((Int) × (Int)))))) (m9 : (Int) × (Int)) => ({ vars := [(1, .v (.slice 41 (.agg (.pair (.int .i64) (.pair (.int .i64) .str)))) .ro x1), (2, .addr (.mem 2) []), (4, .addr (.mem 4) []), (5, .addr (.mem 5) []), (8, .v (.int .i64) .ro x8), (9, .addr (.mem 9) [])], scr := [], mems := [(2, ⟨(.agg (.pair (.int .i64) (.pair (.slice 9 .str) (.pair (.slice 3 (.int .i64)) (.slice 33 (.agg (.pair (.int .i64) (.int .i64)))))))), .ro, m2⟩), (4, ⟨(.agg (.pair (.int .i64) (.pair (.slice 9 .str) (.pair (.slice 3 (.int .i64)) (.slice 33 (.agg (.pair (.int .i64) (.int .i64)))))))), .ro, m4⟩), (5, ⟨(.agg (.pair (.int .i64) (.pair (.slice 9 .str) (.pair (.slice 3 (.int .i64)) (.slice 33 (.agg (.pair (.int .i64) (.int .i64)))))))), (.pr .ro (.pr (.own .ro) (.pr (.own .ro) (.own .ro)))), m5⟩), (9, ⟨(.agg (.pair (.int .i64) (.int .i64))), .ro, m9⟩)] } : ST cx)
noncomputable def u6 (k n5 : Nat) : T6 := fun (x1 : List ((Int) × ((Int) × (List UInt8)))) (x8 : Int) (m2 m4 m5 : (Int) × ((List (List UInt8)) × ((List (Int)) × (List ((Int) × (Int)))))) (m9 : (Int) × (Int)) => uK (run E h k c21) (s6 x1 x8 m2 m4 m5 m9) (K46 k n5)
noncomputable abbrev l6 (k n5 : Nat) : T6 := fun (x1 : List ((Int) × ((Int) × (List UInt8)))) (x8 : Int) (m2 m4 m5 : (Int) × ((List (List UInt8)) × ((List (Int)) × (List ((Int) × (Int)))))) (m9 : (Int) × (Int)) => cutK (run E h k c21) (s6 x1 x8 m2 m4 m5 m9) (K46 k n5)
abbrev s7 : ((Int) × ((List (List UInt8)) × ((List (Int)) × (List ((Int) × (Int)))))) → ((Int) × ((List (List UInt8)) × ((List (Int)) × (List ((Int) × (Int)))))) → ST cx := fun (m4 m5 : (Int) × ((List (List UInt8)) × ((List (Int)) × (List ((Int) × (Int)))))) => ({ vars := [(4, .addr (.mem 4) []), (5, .addr (.mem 5) [])], scr := [], mems := [(4, ⟨(.agg (.pair (.int .i64) (.pair (.slice 9 .str) (.pair (.slice 3 (.int .i64)) (.slice 33 (.agg (.pair (.int .i64) (.int .i64)))))))), .ro, m4⟩), (5, ⟨(.agg (.pair (.int .i64) (.pair (.slice 9 .str) (.pair (.slice 3 (.int .i64)) (.slice 33 (.agg (.pair (.int .i64) (.int .i64)))))))), (.pr .ro (.pr (.own .ro) (.pr (.own .ro) (.own .ro)))), m5⟩)] } : ST cx)
noncomputable def u7 (k : Nat) : T7 := fun (m4 m5 : (Int) × ((List (List UInt8)) × ((List (Int)) × (List ((Int) × (Int)))))) => uK (run E h k c14) (s7 m4 m5) (K31 k)
noncomputable abbrev l7 (k : Nat) : T7 := fun (m4 m5 : (Int) × ((List (List UInt8)) × ((List (Int)) × (List ((Int) × (Int)))))) => cutK (run E h k c14) (s7 m4 m5) (K31 k)
abbrev s5 : (List ((Int) × ((Int) × (List UInt8)))) → Int → ((Int) × ((List (List UInt8)) × ((List (Int)) × (List ((Int) × (Int)))))) → ((Int) × ((List (List UInt8)) × ((List (Int)) × (List ((Int) × (Int)))))) → ((Int) × ((List (List UInt8)) × ((List (Int)) × (List ((Int) × (Int)))))) → ST cx := fun (x1 : List ((Int) × ((Int) × (List UInt8)))) (x8 : Int) (m2 m4 m5 : (Int) × ((List (List UInt8)) × ((List (Int)) × (List ((Int) × (Int)))))) => ({ vars := [(1, .v (.slice 41 (.agg (.pair (.int .i64) (.pair (.int .i64) .str)))) .ro x1), (2, .addr (.mem 2) []), (4, .addr (.mem 4) []), (5, .addr (.mem 5) []), (8, .v (.int .i64) .ro x8)], scr := [], mems := [(2, ⟨(.agg (.pair (.int .i64) (.pair (.slice 9 .str) (.pair (.slice 3 (.int .i64)) (.slice 33 (.agg (.pair (.int .i64) (.int .i64)))))))), .ro, m2⟩), (4, ⟨(.agg (.pair (.int .i64) (.pair (.slice 9 .str) (.pair (.slice 3 (.int .i64)) (.slice 33 (.agg (.pair (.int .i64) (.int .i64)))))))), .ro, m4⟩), (5, ⟨(.agg (.pair (.int .i64) (.pair (.slice 9 .str) (.pair (.slice 3 (.int .i64)) (.slice 33 (.agg (.pair (.int .i64) (.int .i64)))))))), (.pr .ro (.pr (.own .ro) (.pr (.own .ro) (.own .ro)))), m5⟩)] } : ST cx)
noncomputable def u5 (k n5 : Nat) : T5 := fun (x1 : List ((Int) × ((Int) × (List UInt8)))) (x8 : Int) (m2 m4 m5 : (Int) × ((List (List UInt8)) × ((List (Int)) × (List ((Int) × (Int)))))) => uK (loopL E h k c16 (K35 k) n5) (s5 x1 x8 m2 m4 m5) ()
noncomputable abbrev l5 (k n5 : Nat) : T5 := fun (x1 : List ((Int) × ((Int) × (List UInt8)))) (x8 : Int) (m2 m4 m5 : (Int) × ((List (List UInt8)) × ((List (Int)) × (List ((Int) × (Int)))))) => cutK (loopL E h k c16 (K35 k) n5) (s5 x1 x8 m2 m4 m5) ()
abbrev s4 : (List ((Int) × ((Int) × (List UInt8)))) → ((Int) × ((List (List UInt8)) × ((List (Int)) × (List ((Int) × (Int)))))) → ((Int) × ((List (List UInt8)) × ((List (Int)) × (List ((Int) × (Int)))))) → ((Int) × ((List (List UInt8)) × ((List (Int)) × (List ((Int) × (Int)))))) → ST cx := fun (x1 : List ((Int) × ((Int) × (List UInt8)))) (m2 m4 m5 : (Int) × ((List (List UInt8)) × ((List (Int)) × (List ((Int) × (Int)))))) => ({ vars := [(1, .v (.slice 41 (.agg (.pair (.int .i64) (.pair (.int .i64) .str)))) .ro x1), (2, .addr (.mem 2) []), (4, .addr (.mem 4) []), (5, .addr (.mem 5) [])], scr := [], mems := [(2, ⟨(.agg (.pair (.int .i64) (.pair (.slice 9 .str) (.pair (.slice 3 (.int .i64)) (.slice 33 (.agg (.pair (.int .i64) (.int .i64)))))))), .ro, m2⟩), (4, ⟨(.agg (.pair (.int .i64) (.pair (.slice 9 .str) (.pair (.slice 3 (.int .i64)) (.slice 33 (.agg (.pair (.int .i64) (.int .i64)))))))), .ro, m4⟩), (5, ⟨(.agg (.pair (.int .i64) (.pair (.slice 9 .str) (.pair (.slice 3 (.int .i64)) (.slice 33 (.agg (.pair (.int .i64) (.int .i64)))))))), (.pr .ro (.pr (.own .ro) (.pr (.own .ro) (.own .ro)))), m5⟩)] } : ST cx)
noncomputable def u4 (k : Nat) : T4 := fun (x1 : List ((Int) × ((Int) × (List UInt8)))) (m2 m4 m5 : (Int) × ((List (List UInt8)) × ((List (Int)) × (List ((Int) × (Int)))))) => uK (run E h k c8) (s4 x1 m2 m4 m5) (K18 k)
noncomputable abbrev l4 (k : Nat) : T4 := fun (x1 : List ((Int) × ((Int) × (List UInt8)))) (m2 m4 m5 : (Int) × ((List (List UInt8)) × ((List (Int)) × (List ((Int) × (Int)))))) => cutK (run E h k c8) (s4 x1 m2 m4 m5) (K18 k)
abbrev s3 : (List ((Int) × ((Int) × (List UInt8)))) → Int → ((Int) × ((List (List UInt8)) × ((List (Int)) × (List ((Int) × (Int)))))) → ((Int) × ((List (List UInt8)) × ((List (Int)) × (List ((Int) × (Int)))))) → ((Int) × ((List (List UInt8)) × ((List (Int)) × (List ((Int) × (Int)))))) → ST cx := fun (x1 : List ((Int) × ((Int) × (List UInt8)))) (x7 : Int) (m2 m4 m5 : (Int) × ((List (List UInt8)) × ((List (Int)) × (List ((Int) × (Int)))))) => ({ vars := [(1, .v (.slice 41 (.agg (.pair (.int .i64) (.pair (.int .i64) .str)))) .ro x1), (2, .addr (.mem 2) []), (4, .addr (.mem 4) []), (5, .addr (.mem 5) []), (7, .v (.int .i64) .ro x7)], scr := [], mems := [(2, ⟨(.agg (.pair (.int .i64) (.pair (.slice 9 .str) (.pair (.slice 3 (.int .i64)) (.slice 33 (.agg (.pair (.int .i64) (.int .i64)))))))), .ro, m2⟩), (4, ⟨(.agg (.pair (.int .i64) (.pair (.slice 9 .str) (.pair (.slice 3 (.int .i64)) (.slice 33 (.agg (.pair (.int .i64) (.int .i64)))))))), .ro, m4⟩), (5, ⟨(.agg (.pair (.int .i64) (.pair (.slice 9 .str) (.pair (.slice 3 (.int .i64)) (.slice 33 (.agg (.pair (.int .i64) (.int .i64)))))))), (.pr .ro (.pr (.own .ro) (.pr (.own .ro) (.own .ro)))), m5⟩)] } : ST cx)
noncomputable def u3 (k n3 : Nat) : T3 := fun (x1 : List ((Int) × ((Int) × (List UInt8)))) (x7 : Int) (m2 m4 m5 : (Int) × ((List (List UInt8)) × ((List (Int)) × (List ((Int) × (Int)))))) => uK (loopL E h k c10 (K22 k) n3) (s3 x1 x7 m2 m4 m5) ()
noncomputable abbrev l3 (k n3 : Nat) : T3 := fun (x1 : List ((Int) × ((Int) × (List UInt8)))) (x7 : Int) (m2 m4 m5 : (Int) × ((List (List UInt8)) × ((List (Int)) × (List ((Int) × (Int)))))) => cutK (loopL E h k c10 (K22 k) n3) (s3 x1 x7 m2 m4 m5) ()
abbrev s2 : (List ((Int) × ((Int) × (List UInt8)))) → ((Int) × ((List (List UInt8)) × ((List (Int)) × (List ((Int) × (Int)))))) → ((Int) × ((List (List UInt8)) × ((List (Int)) × (List ((Int) × (Int)))))) → ((Int) × ((List (List UInt8)) × ((List (Int)) × (List ((Int) × (Int)))))) → ST cx := fun (x1 : List ((Int) × ((Int) × (List UInt8)))) (m2 m4 m5 : (Int) × ((List (List UInt8)) × ((List (Int)) × (List ((Int) × (Int)))))) => ({ vars := [(1, .v (.slice 41 (.agg (.pair (.int .i64) (.pair (.int .i64) .str)))) .ro x1), (2, .addr (.mem 2) []), (4, .addr (.mem 4) []), (5, .addr (.mem 5) [])], scr := [], mems := [(2, ⟨(.agg (.pair (.int .i64) (.pair (.slice 9 .str) (.pair (.slice 3 (.int .i64)) (.slice 33 (.agg (.pair (.int .i64) (.int .i64)))))))), .ro, m2⟩), (4, ⟨(.agg (.pair (.int .i64) (.pair (.slice 9 .str) (.pair (.slice 3 (.int .i64)) (.slice 33 (.agg (.pair (.int .i64) (.int .i64)))))))), .ro, m4⟩), (5, ⟨(.agg (.pair (.int .i64) (.pair (.slice 9 .str) (.pair (.slice 3 (.int .i64)) (.slice 33 (.agg (.pair (.int .i64) (.int .i64)))))))), (.pr .ro (.pr (.own .ro) (.pr (.own .ro) (.own .ro)))), m5⟩)] } : ST cx)
noncomputable def u2 (k : Nat) : T2 := fun (x1 : List ((Int) × ((Int) × (List UInt8)))) (m2 m4 m5 : (Int) × ((List (List UInt8)) × ((List (Int)) × (List ((Int) × (Int)))))) => uK (run E h k c2) (s2 x1 m2 m4 m5) (K5 k)
noncomputable abbrev l2 (k : Nat) : T2 := fun (x1 : List ((Int) × ((Int) × (List UInt8)))) (m2 m4 m5 : (Int) × ((List (List UInt8)) × ((List (Int)) × (List ((Int) × (Int)))))) => cutK (run E h k c2) (s2 x1 m2 m4 m5) (K5 k)
abbrev s1 : (List ((Int) × ((Int) × (List UInt8)))) → Int → ((Int) × ((List (List UInt8)) × ((List (Int)) × (List ((Int) × (Int)))))) → ((Int) × ((List (List UInt8)) × ((List (Int)) × (List ((Int) × (Int)))))) → ((Int) × ((List (List UInt8)) × ((List (Int)) × (List ((Int) × (Int)))))) → ST cx := fun (x1 : List ((Int) × ((Int) × (List UInt8)))) (x6 : Int) (m2 m4 m5 : (Int) × ((List (List UInt8)) × ((List (Int)) × (List ((Int) × (Int)))))) => ({ vars := [(1, .v (.slice 41 (.agg (.pair (.int .i64) (.pair (.int .i64) .str)))) .ro x1), (2, .addr (.mem 2) []), (4, .addr (.mem 4) []), (5, .addr (.mem 5) []), (6, .v (.int .i64) .ro x6)], scr := [], mems := [(2, ⟨(.agg (.pair (.int .i64) (.pair (.slice 9 .str) (.pair (.slice 3 (.int .i64)) (.slice 33 (.agg (.pair (.int .i64) (.int .i64)))))))), .ro, m2⟩), (4, ⟨(.agg (.pair (.int .i64) (.pair (.slice 9 .str) (.pair (.slice 3 (.int .i64)) (.slice 33 (.agg (.pair (.int .i64) (.int .i64)))))))), .ro, m4⟩), (5, ⟨(.agg (.pair (.int .i64) (.pair (.slice 9 .str) (.pair (.slice 3 (.int .i64)) (.slice 33 (.agg (.pair (.int .i64) (.int .i64)))))))), (.pr .ro (.pr (.own .ro) (.pr (.own .ro) (.own .ro)))), m5⟩)] } : ST cx)
noncomputable def u1 (k n1 : Nat) : T1 := fun (x1 : List ((Int) × ((Int) × (List UInt8)))) (x6 : Int) (m2 m4 m5 : (Int) × ((List (List UInt8)) × ((List (Int)) × (List ((Int) × (Int)))))) => uK (loopL E h k c4 (K9 k) n1) (s1 x1 x6 m2 m4 m5) ()
noncomputable abbrev l1 (k n1 : Nat) : T1 := fun (x1 : List ((Int) × ((Int) × (List UInt8)))) (x6 : Int) (m2 m4 m5 : (Int) × ((List (List UInt8)) × ((List (Int)) × (List ((Int) × (Int)))))) => cutK (loopL E h k c4 (K9 k) n1) (s1 x1 x6 m2 m4 m5) ()
noncomputable def u0 (k : Nat) : T0 := fun (x0 : (Int) × ((List (List UInt8)) × ((List (Int)) × (List ((Int) × (Int)))))) (x1 : List ((Int) × ((Int) × (List UInt8)))) => runOf (S := cx) E h k Try.f26 [.val (.agg (.pair (.int .i64) (.pair (.slice 9 .str) (.pair (.slice 3 (.int .i64)) (.slice 33 (.agg (.pair (.int .i64) (.int .i64)))))))), .val (.slice 41 (.agg (.pair (.int .i64) (.pair (.int .i64) .str))))] (.agg (.pair (.int .i64) (.pair (.slice 9 .str) (.pair (.slice 3 (.int .i64)) (.slice 33 (.agg (.pair (.int .i64) (.int .i64)))))))) .ro (x0, x1, ())
def t8 (f5 : T5) : T8 := fun (x1 : List ((Int) × ((Int) × (List UInt8)))) (x8 : Int) (m2 m4 m5 : (Int) × ((List (List UInt8)) × ((List (Int)) × (List ((Int) × (Int)))))) => 
  (f5 x1 (w64 (x8 + (1 : Int))) m2 m4 m5)
theorem e8 (k n5 : Nat) : u8 k n5 = t8 (l5 k n5) := by kernel_rfl
theorem g8 (k n5 : Nat) : l8 k n5 = u8 k n5 := funext fun _ => funext fun _ => funext fun _ => funext fun _ => funext fun _ => cut_u _ _ _
theorem d8 {x5 y5 : T5} (h5 : x5 = y5) : t8 x5 = t8 y5 := by subst h5; rfl
def p8 (k : Nat) (a5 : T5) : T8 := t8 a5
theorem o8 (k n5 : Nat) (a5 : T5) (h5 : l5 k n5 = a5) : l8 k n5 = p8 k a5 := (Eq.trans (b := u8 k n5) (g8 k n5) (Eq.trans (b := t8 (l5 k n5)) (e8 k n5) (Eq.trans (b := t8 a5) (d8 h5) (by kernel_rfl))))
def t6 (f8 : T8) : T6 := fun (x1 : List ((Int) × ((Int) × (List UInt8)))) (x8 : Int) (m2 m4 m5 : (Int) × ((List (List UInt8)) × ((List (Int)) × (List ((Int) × (Int)))))) (m9 : (Int) × (Int)) => 
  (mustR (room m5.2.2.2 ([m9] : List ((Int) × (Int)))) (f8 x1 x8 m2 m4 (m5.1, (m5.2.1, (m5.2.2.1, (m5.2.2.2 ++ ([m9] : List ((Int) × (Int)))))))))
theorem e6 (k n5 : Nat) : u6 k n5 = t6 (l8 k n5) := by kernel_rfl
theorem g6 (k n5 : Nat) : l6 k n5 = u6 k n5 := funext fun _ => funext fun _ => funext fun _ => funext fun _ => funext fun _ => funext fun _ => cut_u _ _ _
theorem d6 {x8 y8 : T8} (h8 : x8 = y8) : t6 x8 = t6 y8 := by subst h8; rfl
def p6 (k : Nat) (a5 : T5) : T6 := t6 (p8 k a5)
theorem o6 (k n5 : Nat) (a5 : T5) (h5 : l5 k n5 = a5) : l6 k n5 = p6 k a5 := (Eq.trans (b := u6 k n5) (g6 k n5) (Eq.trans (b := t6 (l8 k n5)) (e6 k n5) (Eq.trans (b := t6 (p8 k a5)) (d6 (o8 k n5 a5 h5)) (by kernel_rfl))))
def t7 : T7 := fun (m4 m5 : (Int) × ((List (List UInt8)) × ((List (Int)) × (List ((Int) × (Int)))))) => 
  (some (m5, ()))
theorem e7 (k : Nat) : u7 k = t7 := by kernel_rfl
theorem g7 (k : Nat) : l7 k = u7 k := funext fun _ => funext fun _ => cut_u _ _ _
def p7 (k : Nat) : T7 := t7
theorem o7 (k : Nat) : l7 k = p7 k := (Eq.trans (b := u7 k) (g7 k) (Eq.trans (b := t7) (e7 k) (by kernel_rfl)))
def t5 (f6 : T6) (f7 : T7) : T5 := fun (x1 : List ((Int) × ((Int) × (List UInt8)))) (x8 : Int) (m2 m4 m5 : (Int) × ((List (List UInt8)) × ((List (Int)) × (List ((Int) × (Int)))))) => 
  (iteB (decide (x8 < ((List.length m2.2.2.2 : Nat) : Int))) (withinR x8 (List.length m2.2.2.2) fun q5 => (withinR x8 (List.length m2.2.2.2) fun q6 => (meetK (bindR (s_ref04_Move (x1, ((List.getD m2.2.2.2 q5 ((0 : Int), (0 : Int))).1, (true, ())))) fun r7 => (meetK (bindR (s_ref04_Move (x1, ((List.getD m2.2.2.2 q6 ((0 : Int), (0 : Int))).2, (false, ())))) fun r8 => (iteB (decide (r8.1 < r7.1)) (f6 x1 x8 m2 m4 m5 (r7.1, r7.1)) (f6 x1 x8 m2 m4 m5 (r7.1, r8.1)))) (bindR (s_ref04_Move (x1, ((List.getD m2.2.2.2 q6 ((0 : Int), (0 : Int))).2, (false, ())))) fun r9 => (iteB (decide (r9.1 < r7.1)) (f6 x1 x8 m2 m4 m5 (r7.1, r7.1)) (f6 x1 x8 m2 m4 m5 (r7.1, r9.1)))))) (bindR (s_ref04_Move (x1, ((List.getD m2.2.2.2 q5 ((0 : Int), (0 : Int))).1, (true, ())))) fun r10 => (bindR (s_ref04_Move (x1, ((List.getD m2.2.2.2 q6 ((0 : Int), (0 : Int))).2, (false, ())))) fun r11 => (iteB (decide (r11.1 < r10.1)) (f6 x1 x8 m2 m4 m5 (r10.1, r10.1)) (f6 x1 x8 m2 m4 m5 (r10.1, r11.1)))))))) (f7 m4 m5))
theorem e5 (k n5 : Nat) : u5 k (n5 + 1) = t5 (l6 k n5) (l7 k) := by kernel_rfl
theorem g5 (k n5 : Nat) : l5 k (n5 + 1) = u5 k (n5 + 1) := funext fun _ => funext fun _ => funext fun _ => funext fun _ => funext fun _ => cut_u _ _ _
theorem d5 {x6 y6 : T6} {x7 y7 : T7} (h6 : x6 = y6) (h7 : x7 = y7) : t5 x6 x7 = t5 y6 y7 := by subst h6; subst h7; rfl
def p5 (k : Nat) : Nat → T5
  | 0 => fun _ _ _ _ _ => none
  | n5 + 1 => t5 (p6 k (p5 k n5)) (p7 k)
theorem o5 (k : Nat) : ∀ n5, l5 k n5 = p5 k n5 := by
  intro n5
  induction n5 with
  | zero => kernel_rfl
  | succ n5 ih => exact (Eq.trans (b := u5 k (n5 + 1)) (g5 k n5) (Eq.trans (b := t5 (l6 k n5) (l7 k)) (e5 k n5) (Eq.trans (b := t5 (p6 k (p5 k n5)) (p7 k)) (d5 (o6 k n5 (p5 k n5) ih) (o7 k)) (by kernel_rfl))))
def t4 (f5 : T5) : T4 := fun (x1 : List ((Int) × ((Int) × (List UInt8)))) (m2 m4 m5 : (Int) × ((List (List UInt8)) × ((List (Int)) × (List ((Int) × (Int)))))) => 
  (f5 x1 (0 : Int) m2 m4 m5)
theorem e4 (k : Nat) : u4 k = t4 (l5 k k) := by kernel_rfl
theorem g4 (k : Nat) : l4 k = u4 k := funext fun _ => funext fun _ => funext fun _ => funext fun _ => cut_u _ _ _
theorem d4 {x5 y5 : T5} (h5 : x5 = y5) : t4 x5 = t4 y5 := by subst h5; rfl
def p4 (k : Nat) : T4 := t4 (p5 k k)
theorem o4 (k : Nat) : l4 k = p4 k := (Eq.trans (b := u4 k) (g4 k) (Eq.trans (b := t4 (l5 k k)) (e4 k) (Eq.trans (b := t4 (p5 k k)) (d4 (o5 k k)) (by kernel_rfl))))
def t3 (f3 : T3) (f4 : T4) : T3 := fun (x1 : List ((Int) × ((Int) × (List UInt8)))) (x7 : Int) (m2 m4 m5 : (Int) × ((List (List UInt8)) × ((List (Int)) × (List ((Int) × (Int)))))) => 
  (iteB (decide (x7 < ((List.length m2.2.2.1 : Nat) : Int))) (withinR x7 (List.length m2.2.2.1) fun q3 => (bindR (s_ref04_Move (x1, ((List.getD m2.2.2.1 q3 (0 : Int)), (false, ())))) fun r4 => (mustR (room m5.2.2.1 ([r4.1] : List (Int))) (f3 x1 (w64 (x7 + (1 : Int))) m2 m4 (m5.1, (m5.2.1, ((m5.2.2.1 ++ ([r4.1] : List (Int))), m5.2.2.2))))))) (f4 x1 m2 m4 m5))
theorem e3 (k n3 : Nat) : u3 k (n3 + 1) = t3 (l3 k n3) (l4 k) := by kernel_rfl
theorem g3 (k n3 : Nat) : l3 k (n3 + 1) = u3 k (n3 + 1) := funext fun _ => funext fun _ => funext fun _ => funext fun _ => funext fun _ => cut_u _ _ _
theorem d3 {x3 y3 : T3} {x4 y4 : T4} (h3 : x3 = y3) (h4 : x4 = y4) : t3 x3 x4 = t3 y3 y4 := by subst h3; subst h4; rfl
def p3 (k : Nat) : Nat → T3
  | 0 => fun _ _ _ _ _ => none
  | n3 + 1 => t3 (p3 k n3) (p4 k)
theorem o3 (k : Nat) : ∀ n3, l3 k n3 = p3 k n3 := by
  intro n3
  induction n3 with
  | zero => kernel_rfl
  | succ n3 ih => exact (Eq.trans (b := u3 k (n3 + 1)) (g3 k n3) (Eq.trans (b := t3 (l3 k n3) (l4 k)) (e3 k n3) (Eq.trans (b := t3 (p3 k n3) (p4 k)) (d3 ih (o4 k)) (by kernel_rfl))))
def t2 (f3 : T3) : T2 := fun (x1 : List ((Int) × ((Int) × (List UInt8)))) (m2 m4 m5 : (Int) × ((List (List UInt8)) × ((List (Int)) × (List ((Int) × (Int)))))) => 
  (f3 x1 (0 : Int) m2 m4 m5)
theorem e2 (k : Nat) : u2 k = t2 (l3 k k) := by kernel_rfl
theorem g2 (k : Nat) : l2 k = u2 k := funext fun _ => funext fun _ => funext fun _ => funext fun _ => cut_u _ _ _
theorem d2 {x3 y3 : T3} (h3 : x3 = y3) : t2 x3 = t2 y3 := by subst h3; rfl
def p2 (k : Nat) : T2 := t2 (p3 k k)
theorem o2 (k : Nat) : l2 k = p2 k := (Eq.trans (b := u2 k) (g2 k) (Eq.trans (b := t2 (l3 k k)) (e2 k) (Eq.trans (b := t2 (p3 k k)) (d2 (o3 k k)) (by kernel_rfl))))
def t1 (f1 : T1) (f2 : T2) : T1 := fun (x1 : List ((Int) × ((Int) × (List UInt8)))) (x6 : Int) (m2 m4 m5 : (Int) × ((List (List UInt8)) × ((List (Int)) × (List ((Int) × (Int)))))) => 
  (iteB (decide (x6 < ((List.length m2.2.1 : Nat) : Int))) (withinR x6 (List.length m2.2.1) fun q2 => (mustR (room m5.2.1 ([(List.getD m2.2.1 q2 ([] : List UInt8))] : List (List UInt8))) (f1 x1 (w64 (x6 + (1 : Int))) m2 m4 (m5.1, ((m5.2.1 ++ ([(List.getD m2.2.1 q2 ([] : List UInt8))] : List (List UInt8))), m5.2.2))))) (f2 x1 m2 m4 m5))
theorem e1 (k n1 : Nat) : u1 k (n1 + 1) = t1 (l1 k n1) (l2 k) := by kernel_rfl
theorem g1 (k n1 : Nat) : l1 k (n1 + 1) = u1 k (n1 + 1) := funext fun _ => funext fun _ => funext fun _ => funext fun _ => funext fun _ => cut_u _ _ _
theorem d1 {x1 y1 : T1} {x2 y2 : T2} (h1 : x1 = y1) (h2 : x2 = y2) : t1 x1 x2 = t1 y1 y2 := by subst h1; subst h2; rfl
def p1 (k : Nat) : Nat → T1
  | 0 => fun _ _ _ _ _ => none
  | n1 + 1 => t1 (p1 k n1) (p2 k)
theorem o1 (k : Nat) : ∀ n1, l1 k n1 = p1 k n1 := by
  intro n1
  induction n1 with
  | zero => kernel_rfl
  | succ n1 ih => exact (Eq.trans (b := u1 k (n1 + 1)) (g1 k n1) (Eq.trans (b := t1 (l1 k n1) (l2 k)) (e1 k n1) (Eq.trans (b := t1 (p1 k n1) (p2 k)) (d1 ih (o2 k)) (by kernel_rfl))))
def t0 (f1 : T1) : T0 := fun (x0 : (Int) × ((List (List UInt8)) × ((List (Int)) × (List ((Int) × (Int)))))) (x1 : List ((Int) × ((Int) × (List UInt8)))) => 
  (bindR (s_ref04_Move (x1, (x0.1, (true, ())))) fun r1 => (f1 x1 (0 : Int) x0 ((0 : Int), (([] : List (List UInt8)), (([] : List (Int)), ([] : List ((Int) × (Int)))))) (r1.1, (([] : List (List UInt8)), (([] : List (Int)), ([] : List ((Int) × (Int))))))))
theorem e0 (k : Nat) : u0 k = t0 (l1 k k) := by kernel_rfl
theorem d0 {x1 y1 : T1} (h1 : x1 = y1) : t0 x1 = t0 y1 := by subst h1; rfl
def p0 (k : Nat) : T0 := t0 (p1 k k)
theorem o0 (k : Nat) : u0 k = p0 k := (Eq.trans (b := t0 (l1 k k)) (e0 k) (Eq.trans (b := t0 (p1 k k)) (d0 (o1 k k)) (by kernel_rfl)))
end ref25_Move
def s_ref25_Move (a : ((Int) × ((List (List UInt8)) × ((List (Int)) × (List ((Int) × (Int)))))) × ((List ((Int) × ((Int) × (List UInt8)))) × (Unit))) : Option (((Int) × ((List (List UInt8)) × ((List (Int)) × (List ((Int) × (Int)))))) × (Unit)) := ref25_Move.p0 (fuel) a.1 a.2.1
noncomputable def F_ref25_Move : FSpec cx.toNm := { ps := [.val (.agg (.pair (.int .i64) (.pair (.slice 9 .str) (.pair (.slice 3 (.int .i64)) (.slice 33 (.agg (.pair (.int .i64) (.int .i64)))))))), .val (.slice 41 (.agg (.pair (.int .i64) (.pair (.int .i64) .str))))], nres := 1, rt := (.agg (.pair (.int .i64) (.pair (.slice 9 .str) (.pair (.slice 3 (.int .i64)) (.slice 33 (.agg (.pair (.int .i64) (.int .i64)))))))), rm := .ro, f := s_ref25_Move }
theorem w_ref25_Move (a : ((Int) × ((List (List UInt8)) × ((List (Int)) × (List ((Int) × (Int)))))) × ((List ((Int) × ((Int) × (List UInt8)))) × (Unit))) : runOf (S := cx) ref25_Move.E ref25_Move.h (fuel) Try.f26 F_ref25_Move.ps F_ref25_Move.rt F_ref25_Move.rm a = F_ref25_Move.f a := Eq.trans (b := ref25_Move.u0 (fuel) a.1 a.2.1) (by kernel_rfl) (Eq.trans (b := ref25_Move.p0 (fuel) a.1 a.2.1) (congrFun (congrFun (ref25_Move.o0 (fuel)) a.1) a.2.1) (by kernel_rfl))
theorem ok_ref25_Move : FnOk Try.prog F_ref25_Move 26 := fn_of (hn := ref25_Move.h) (E := ref25_Move.E) cxOk (tysT _) (fs_cons ok_ref04_Move fs_nil) follows Try.func26 (by kernel_rfl) (fun a r h => ⟨fuel, Eq.trans (w_ref25_Move a) h⟩)
namespace law25_MarksMove
noncomputable def E : Env cx := { tys := tys, fs := fsOf [(17, F_law25_alive), (18, F_law04_Great), (19, F_ref04_Check), (20, F_marks_Move), (21, F_law25_Great), (22, F_marks_Right), (23, F_ref25_Right), (24, F_ref04_Apply), (25, F_ref25_Same), (26, F_ref25_Move), (27, F_ref04_Back)] }
abbrev R := Option ((Bool) × (Unit))
abbrev C := Exit → ST cx → R
noncomputable def b : Code := bodyC Try.f4
noncomputable def h : Hint := { vs := [0, 1, 2, 4, 6, 7, 8, 9, 10, 11, 12], nil := [(80, (.own .ro)), (9, (.own .ro))], cuts := [(4, ([0, 2, 4, 36], [4]), ([0, 2, 4], [4])), (5, ([0, 2, 4], [4]), ([0, 2, 4], [4])), (6, ([0, 2, 4, 58], [4]), ([0, 2, 4], [4])), (7, ([0, 2, 4], [4]), ([0, 2, 4], [4])), (10, ([0, 2, 4, 7, 77], [4, 7]), ([0, 2, 4, 7], [4, 7])), (11, ([0, 2, 4, 7], [4, 7]), ([0, 2, 4, 7], [4, 7])), (13, ([0, 2, 4, 7, 9, 10], [4, 7]), ([0, 2, 4, 7, 9], [4, 7])), (16, ([0, 2, 4, 7, 9], [4, 7]), ([0, 2, 4, 7, 9], [4, 7])), (17, ([0, 2, 4, 7, 9, 11], [4, 7]), ([0, 2, 4, 7], [4, 7])), (18, ([0, 2, 4, 7, 9, 11], [4, 7]), ([0, 2, 4, 7, 9, 11], [4, 7])), (20, ([0, 2, 4, 7, 9, 11, 12], [4, 7]), ([0, 2, 4, 7, 9, 11], [4, 7])), (21, ([0, 2, 4, 7, 9, 11, 12], [4, 7]), ([0, 2, 4, 7, 9, 11, 12], [4, 7])), (23, ([0, 2, 4, 7, 9, 11, 12, 145], [4, 7]), ([0, 2, 4, 7, 9, 11, 12], [4, 7])), (24, ([0, 2, 4, 7], [4, 7]), ([0, 2, 4, 7], [4, 7]))], ret := ([6], [4, 7]), ords := [(3, [0, 1, 2, 3, 4, 5, 6, 7, 8, 9, 10, 11, 12, 13, 14, 16, 17, 18, 15, 19, 20, 21]), (24, [0, 1, 2, 5, 3, 4, 6, 7])] }
noncomputable def K0 : C := fin (S := cx) E Try.f4.results.toList .bool .ro [] []
noncomputable def c0 : Code := subC b [1]
noncomputable def K1 (k : Nat) : C := outD h c0 K0
noncomputable def K2 (k : Nat) : C := seqC E h k c0 K0
noncomputable def c1 : Code := subC b [1, 1]
noncomputable def K3 (k : Nat) : C := outD h c1 (K1 k)
noncomputable def K4 (k : Nat) : C := seqC E h k c1 (K1 k)
noncomputable def c2 : Code := subC b [1, 0, 1]
noncomputable def K5 (k : Nat) : C := outD h c2 (K4 k)
noncomputable def K6 (k : Nat) : C := seqC E h k c2 (K4 k)
noncomputable def c3 : Code := subC b [1, 0, 1, 0, 1]
noncomputable def K7 (k : Nat) : C := outD h c3 (K5 k)
noncomputable def K8 (k : Nat) : C := seqC E h k c3 (K5 k)
noncomputable def c4 : Code := subC b [1, 1, 1]
noncomputable def K9 (k : Nat) : C := outD h c4 (K3 k)
noncomputable def K10 (k : Nat) : C := seqC E h k c4 (K3 k)
noncomputable def c5 : Code := subC b [1, 1, 0, 1]
noncomputable def K11 (k : Nat) : C := outD h c5 (K10 k)
noncomputable def K12 (k : Nat) : C := seqC E h k c5 (K10 k)
noncomputable def c6 : Code := subC b [1, 1, 0, 1, 0, 1]
noncomputable def K13 (k : Nat) : C := outD h c6 (K11 k)
noncomputable def K14 (k : Nat) : C := seqC E h k c6 (K11 k)
noncomputable def c7 : Code := subC b [1, 1, 1, 1]
noncomputable def K15 (k : Nat) : C := outD h c7 (K9 k)
noncomputable def K16 (k : Nat) : C := seqC E h k c7 (K9 k)
noncomputable def c8 : Code := subC b [1, 1, 1, 0, 1]
noncomputable def K17 (k : Nat) : C := outD h c8 (K16 k)
noncomputable def K18 (k : Nat) : C := seqC E h k c8 (K16 k)
noncomputable def c9 : Code := subC b [1, 1, 1, 0, 1, 0, 1]
noncomputable def K19 (k : Nat) : C := outD h c9 (K17 k)
noncomputable def K20 (k : Nat) : C := seqC E h k c9 (K17 k)
noncomputable def c10 : Code := subC b [1, 1, 1, 1, 1]
noncomputable def K21 (k : Nat) : C := outD h c10 (K15 k)
noncomputable def K22 (k : Nat) : C := seqC E h k c10 (K15 k)
noncomputable def c11 : Code := subC b [1, 1, 1, 1, 1, 1]
noncomputable def K23 (k : Nat) : C := outD h c11 (K21 k)
noncomputable def K24 (k : Nat) : C := seqC E h k c11 (K21 k)
noncomputable def c12 : Code := subC b [1, 1, 1, 1, 1, 1, 1]
noncomputable def K25 (k : Nat) : C := outD h c12 (K23 k)
noncomputable def K26 (k : Nat) : C := seqC E h k c12 (K23 k)
noncomputable def c13 : Code := subC b [1, 1, 1, 1, 1, 1, 0, 1]
noncomputable def K27 (k : Nat) : C := outD h c13 (K26 k)
noncomputable def K28 (k : Nat) : C := seqC E h k c13 (K26 k)
noncomputable def c14 : Code := subC b [1, 1, 1, 1, 1, 1, 0, 1, 0, 1]
noncomputable def K29 (k : Nat) : C := outD h c14 (K27 k)
noncomputable def K30 (k : Nat) : C := seqC E h k c14 (K27 k)
noncomputable def c15 : Code := subC b [1, 1, 1, 1, 1, 1, 1, 1]
noncomputable def K31 (k : Nat) : C := outD h c15 (K25 k)
noncomputable def K32 (k : Nat) : C := seqC E h k c15 (K25 k)
noncomputable def c16 : Code := subC b [1, 1, 1, 1, 1, 1, 1, 1, 1]
noncomputable def K33 (k : Nat) : C := outD h c16 (K31 k)
noncomputable def K34 (k : Nat) : C := seqC E h k c16 (K31 k)
noncomputable def c17 : Code := subC b [1, 1, 1, 1, 1, 1, 1, 1, 0, 1]
noncomputable def K35 (k : Nat) : C := outD h c17 (K34 k)
noncomputable def K36 (k : Nat) : C := seqC E h k c17 (K34 k)
noncomputable def K37 (k : Nat) : C := blockK 0 (K35 k)
noncomputable def c18 : Code := subC b [1, 1, 1, 1, 1, 1, 1, 1, 0, 1, 0, 0]
noncomputable def K38 (k n7 : Nat) : C := loopD E h k c18 (K37 k) n7
noncomputable def c19 : Code := subC b [1, 1, 1, 1, 1, 1, 1, 1, 0, 1, 0, 0, 1]
noncomputable def K39 (k n7 : Nat) : C := outD h c19 (K38 k n7)
noncomputable def K40 (k n7 : Nat) : C := seqC E h k c19 (K38 k n7)
noncomputable def c20 : Code := subC b [1, 1, 1, 1, 1, 1, 1, 1, 0, 1, 0, 0, 0, 1]
noncomputable def K41 (k n7 : Nat) : C := outD h c20 (K40 k n7)
noncomputable def K42 (k n7 : Nat) : C := seqC E h k c20 (K40 k n7)
noncomputable def c21 : Code := subC b [1, 1, 1, 1, 1, 1, 1, 1, 0, 1, 0, 0, 1, 1]
noncomputable def K43 (k n7 : Nat) : C := outD h c21 (K39 k n7)
noncomputable def K44 (k n7 : Nat) : C := seqC E h k c21 (K39 k n7)
noncomputable def K45 (k n7 : Nat) : C := blockK 1 (K44 k n7)
noncomputable def c22 : Code := subC b [1, 1, 1, 1, 1, 1, 1, 1, 1, 1]
noncomputable def K46 (k : Nat) : C := outD h c22 (K33 k)
noncomputable def K47 (k : Nat) : C := seqC E h k c22 (K33 k)
noncomputable def c23 : Code := subC b [1, 1, 1, 1, 1, 1, 1, 1, 1, 0, 1]
noncomputable def K48 (k : Nat) : C := outD h c23 (K47 k)
noncomputable def K49 (k : Nat) : C := seqC E h k c23 (K47 k)
noncomputable def K50 (k : Nat) : C := blockK 2 (K48 k)
noncomputable def c24 : Code := subC b [1, 1, 1, 1, 1, 1, 1, 1, 1, 0, 1, 0, 0]
noncomputable def K51 (k n9 : Nat) : C := loopD E h k c24 (K50 k) n9
noncomputable def c25 : Code := subC b [1, 1, 1, 1, 1, 1, 1, 1, 1, 0, 1, 0, 0, 1]
noncomputable def K52 (k n9 : Nat) : C := outD h c25 (K51 k n9)
noncomputable def K53 (k n9 : Nat) : C := seqC E h k c25 (K51 k n9)
noncomputable def c26 : Code := subC b [1, 1, 1, 1, 1, 1, 1, 1, 1, 0, 1, 0, 0, 0, 1]
noncomputable def K54 (k n9 : Nat) : C := outD h c26 (K53 k n9)
noncomputable def K55 (k n9 : Nat) : C := seqC E h k c26 (K53 k n9)
noncomputable def c27 : Code := subC b [1, 1, 1, 1, 1, 1, 1, 1, 1, 0, 1, 0, 0, 1, 1]
noncomputable def K56 (k n9 : Nat) : C := outD h c27 (K52 k n9)
noncomputable def K57 (k n9 : Nat) : C := seqC E h k c27 (K52 k n9)
noncomputable def K58 (k n9 : Nat) : C := blockK 3 (K57 k n9)
noncomputable def c28 : Code := subC b [1, 1, 1, 1, 1, 1, 1, 1, 1, 0, 1, 0, 0, 1, 0, 0, 1]
noncomputable def K59 (k n9 : Nat) : C := outD h c28 (K58 k n9)
noncomputable def K60 (k n9 : Nat) : C := seqC E h k c28 (K58 k n9)
noncomputable def K61 (k n9 : Nat) : C := blockK 4 (K59 k n9)
noncomputable def c29 : Code := subC b [1, 1, 1, 1, 1, 1, 1, 1, 1, 0, 1, 0, 0, 1, 0, 0, 1, 0, 0]
noncomputable def K62 (k n9 n10 : Nat) : C := loopD E h k c29 (K61 k n9) n10
noncomputable def c30 : Code := subC b [1, 1, 1, 1, 1, 1, 1, 1, 1, 0, 1, 0, 0, 1, 0, 0, 1, 0, 0, 1]
noncomputable def K63 (k n9 n10 : Nat) : C := outD h c30 (K62 k n9 n10)
noncomputable def K64 (k n9 n10 : Nat) : C := seqC E h k c30 (K62 k n9 n10)
noncomputable def c31 : Code := subC b [1, 1, 1, 1, 1, 1, 1, 1, 1, 0, 1, 0, 0, 1, 0, 0, 1, 0, 0, 0, 1]
noncomputable def K65 (k n9 n10 : Nat) : C := outD h c31 (K64 k n9 n10)
noncomputable def K66 (k n9 n10 : Nat) : C := seqC E h k c31 (K64 k n9 n10)
noncomputable def c32 : Code := subC b [1, 1, 1, 1, 1, 1, 1, 1, 1, 0, 1, 0, 0, 1, 0, 0, 1, 0, 0, 1, 1]
noncomputable def K67 (k n9 n10 : Nat) : C := outD h c32 (K63 k n9 n10)
noncomputable def K68 (k n9 n10 : Nat) : C := seqC E h k c32 (K63 k n9 n10)
noncomputable def K69 (k n9 n10 : Nat) : C := blockK 5 (K68 k n9 n10)
noncomputable def c33 : Code := subC b [1, 1, 1, 1, 1, 1, 1, 1, 1, 0, 1, 0, 0, 1, 0, 0, 1, 0, 0, 1, 0, 0, 1]
noncomputable def K70 (k n9 n10 : Nat) : C := outD h c33 (K69 k n9 n10)
noncomputable def K71 (k n9 n10 : Nat) : C := seqC E h k c33 (K69 k n9 n10)
noncomputable def c34 : Code := subC b [1, 1, 1, 1, 1, 1, 1, 1, 1, 0, 1, 0, 0, 1, 0, 0, 1, 0, 0, 1, 0, 0, 1, 0, 1]
noncomputable def K72 (k n9 n10 : Nat) : C := outD h c34 (K70 k n9 n10)
noncomputable def K73 (k n9 n10 : Nat) : C := seqC E h k c34 (K70 k n9 n10)
noncomputable def c35 : Code := subC b [1, 1, 1, 1, 1, 1, 1, 1, 1, 1, 1]
noncomputable def K74 (k : Nat) : C := outD h c35 (K46 k)
noncomputable def K75 (k : Nat) : C := seqC E h k c35 (K46 k)
abbrev T14 := (List UInt8) → (List ((Int) × ((Int) × (List UInt8)))) → (List (Int)) → Int → Int → ((Int) × ((List (List UInt8)) × ((List (Int)) × (List ((Int) × (Int)))))) → ((Int) × ((List (List UInt8)) × ((List (Int)) × (List ((Int) × (Int)))))) → R
abbrev T12 := (List UInt8) → (List ((Int) × ((Int) × (List UInt8)))) → (List (Int)) → Int → Int → Bool → ((Int) × ((List (List UInt8)) × ((List (Int)) × (List ((Int) × (Int)))))) → ((Int) × ((List (List UInt8)) × ((List (Int)) × (List ((Int) × (Int)))))) → R
abbrev T13 := (List UInt8) → (List ((Int) × ((Int) × (List UInt8)))) → (List (Int)) → Int → ((Int) × ((List (List UInt8)) × ((List (Int)) × (List ((Int) × (Int)))))) → ((Int) × ((List (List UInt8)) × ((List (Int)) × (List ((Int) × (Int)))))) → R
abbrev T10 := (List UInt8) → (List ((Int) × ((Int) × (List UInt8)))) → (List (Int)) → Int → Int → ((Int) × ((List (List UInt8)) × ((List (Int)) × (List ((Int) × (Int)))))) → ((Int) × ((List (List UInt8)) × ((List (Int)) × (List ((Int) × (Int)))))) → R
abbrev T11 := (List UInt8) → (List ((Int) × ((Int) × (List UInt8)))) → ((Int) × ((List (List UInt8)) × ((List (Int)) × (List ((Int) × (Int)))))) → ((Int) × ((List (List UInt8)) × ((List (Int)) × (List ((Int) × (Int)))))) → R
abbrev T9 := (List UInt8) → (List ((Int) × ((Int) × (List UInt8)))) → (List (Int)) → Int → ((Int) × ((List (List UInt8)) × ((List (Int)) × (List ((Int) × (Int)))))) → ((Int) × ((List (List UInt8)) × ((List (Int)) × (List ((Int) × (Int)))))) → R
abbrev T8 := (List UInt8) → (List ((Int) × ((Int) × (List UInt8)))) → (List (Int)) → ((Int) × ((List (List UInt8)) × ((List (Int)) × (List ((Int) × (Int)))))) → ((Int) × ((List (List UInt8)) × ((List (Int)) × (List ((Int) × (Int)))))) → R
abbrev T7 := (List UInt8) → (List ((Int) × ((Int) × (List UInt8)))) → (List (Int)) → Int → ((Int) × ((List (List UInt8)) × ((List (Int)) × (List ((Int) × (Int)))))) → ((Int) × ((List (List UInt8)) × ((List (Int)) × (List ((Int) × (Int)))))) → R
abbrev T6 := (List UInt8) → (List ((Int) × ((Int) × (List UInt8)))) → ((Int) × ((List (List UInt8)) × ((List (Int)) × (List ((Int) × (Int)))))) → ((Int) × ((List (List UInt8)) × ((List (Int)) × (List ((Int) × (Int)))))) → R
abbrev T5 := (List UInt8) → (List ((Int) × ((Int) × (List UInt8)))) → Bool → ((Int) × ((List (List UInt8)) × ((List (Int)) × (List ((Int) × (Int)))))) → ((Int) × ((List (List UInt8)) × ((List (Int)) × (List ((Int) × (Int)))))) → R
abbrev T4 := (List UInt8) → (List ((Int) × ((Int) × (List UInt8)))) → ((Int) × ((List (List UInt8)) × ((List (Int)) × (List ((Int) × (Int)))))) → R
abbrev T3 := (List UInt8) → (List ((Int) × ((Int) × (List UInt8)))) → Bool → ((Int) × ((List (List UInt8)) × ((List (Int)) × (List ((Int) × (Int)))))) → R
abbrev T2 := (List UInt8) → (List ((Int) × ((Int) × (List UInt8)))) → ((Int) × ((List (List UInt8)) × ((List (Int)) × (List ((Int) × (Int)))))) → R
abbrev T1 := (List UInt8) → (List ((Int) × ((Int) × (List UInt8)))) → Bool → ((Int) × ((List (List UInt8)) × ((List (Int)) × (List ((Int) × (Int)))))) → R
abbrev T0 := (List UInt8) → ((Int) × ((List (List UInt8)) × ((List (Int)) × (List ((Int) × (Int)))))) → (List ((Int) × ((Int) × (List UInt8)))) → R
abbrev s14 : (List UInt8) → (List ((Int) × ((Int) × (List UInt8)))) → (List (Int)) → Int → Int → ((Int) × ((List (List UInt8)) × ((List (Int)) × (List ((Int) × (Int)))))) → ((Int) × ((List (List UInt8)) × ((List (Int)) × (List ((Int) × (Int)))))) → ST cx := fun (x0 : List UInt8) (x2 : List ((Int) × ((Int) × (List UInt8)))) (x9 : List (Int)) (x11 x12 : Int) (m4 m7 : (Int) × ((List (List UInt8)) × ((List (Int)) × (List ((Int) × (Int)))))) => ({ vars := [(0, .v .str .ro x0), (2, .v (.slice 41 (.agg (.pair (.int .i64) (.pair (.int .i64) .str)))) .ro x2), (4, .addr (.mem 4) []), (7, .addr (.mem 7) []), (9, .v (.slice 3 (.int .i64)) (.own .ro) x9), (11, .v (.int .i64) .ro x11), (12, .v (.int .i64) .ro x12)], scr := [], mems := [(4, ⟨(.agg (.pair (.int .i64) (.pair (.slice 9 .str) (.pair (.slice 3 (.int .i64)) (.slice 33 (.agg (.pair (.int .i64) (.int .i64)))))))), .ro, m4⟩), (7, ⟨(.agg (.pair (.int .i64) (.pair (.slice 9 .str) (.pair (.slice 3 (.int .i64)) (.slice 33 (.agg (.pair (.int .i64) (.int .i64)))))))), .ro, m7⟩)] } : ST cx)
noncomputable def u14 (k n9 n10 : Nat) : T14 := fun (x0 : List UInt8) (x2 : List ((Int) × ((Int) × (List UInt8)))) (x9 : List (Int)) (x11 x12 : Int) (m4 m7 : (Int) × ((List (List UInt8)) × ((List (Int)) × (List ((Int) × (Int)))))) => uK (run E h k c32) (s14 x0 x2 x9 x11 x12 m4 m7) (K67 k n9 n10)
noncomputable abbrev l14 (k n9 n10 : Nat) : T14 := fun (x0 : List UInt8) (x2 : List ((Int) × ((Int) × (List UInt8)))) (x9 : List (Int)) (x11 x12 : Int) (m4 m7 : (Int) × ((List (List UInt8)) × ((List (Int)) × (List ((Int) × (Int)))))) => cutK (run E h k c32) (s14 x0 x2 x9 x11 x12 m4 m7) (K67 k n9 n10)
abbrev s12 : (List UInt8) → (List ((Int) × ((Int) × (List UInt8)))) → (List (Int)) → Int → Int → Bool → ((Int) × ((List (List UInt8)) × ((List (Int)) × (List ((Int) × (Int)))))) → ((Int) × ((List (List UInt8)) × ((List (Int)) × (List ((Int) × (Int)))))) → ST cx := fun (x0 : List UInt8) (x2 : List ((Int) × ((Int) × (List UInt8)))) (x9 : List (Int)) (x11 x12 : Int) (x145 : Bool) (m4 m7 : (Int) × ((List (List UInt8)) × ((List (Int)) × (List ((Int) × (Int)))))) => ({ vars := [(0, .v .str .ro x0), (2, .v (.slice 41 (.agg (.pair (.int .i64) (.pair (.int .i64) .str)))) .ro x2), (4, .addr (.mem 4) []), (7, .addr (.mem 7) []), (9, .v (.slice 3 (.int .i64)) (.own .ro) x9), (11, .v (.int .i64) .ro x11), (12, .v (.int .i64) .ro x12), (145, .v .bool .ro x145)], scr := [], mems := [(4, ⟨(.agg (.pair (.int .i64) (.pair (.slice 9 .str) (.pair (.slice 3 (.int .i64)) (.slice 33 (.agg (.pair (.int .i64) (.int .i64)))))))), .ro, m4⟩), (7, ⟨(.agg (.pair (.int .i64) (.pair (.slice 9 .str) (.pair (.slice 3 (.int .i64)) (.slice 33 (.agg (.pair (.int .i64) (.int .i64)))))))), .ro, m7⟩)] } : ST cx)
noncomputable def u12 (k n9 n10 : Nat) : T12 := fun (x0 : List UInt8) (x2 : List ((Int) × ((Int) × (List UInt8)))) (x9 : List (Int)) (x11 x12 : Int) (x145 : Bool) (m4 m7 : (Int) × ((List (List UInt8)) × ((List (Int)) × (List ((Int) × (Int)))))) => uK (run E h k c33) (s12 x0 x2 x9 x11 x12 x145 m4 m7) (K70 k n9 n10)
noncomputable abbrev l12 (k n9 n10 : Nat) : T12 := fun (x0 : List UInt8) (x2 : List ((Int) × ((Int) × (List UInt8)))) (x9 : List (Int)) (x11 x12 : Int) (x145 : Bool) (m4 m7 : (Int) × ((List (List UInt8)) × ((List (Int)) × (List ((Int) × (Int)))))) => cutK (run E h k c33) (s12 x0 x2 x9 x11 x12 x145 m4 m7) (K70 k n9 n10)
abbrev s13 : (List UInt8) → (List ((Int) × ((Int) × (List UInt8)))) → (List (Int)) → Int → ((Int) × ((List (List UInt8)) × ((List (Int)) × (List ((Int) × (Int)))))) → ((Int) × ((List (List UInt8)) × ((List (Int)) × (List ((Int) × (Int)))))) → ST cx := fun (x0 : List UInt8) (x2 : List ((Int) × ((Int) × (List UInt8)))) (x9 : List (Int)) (x11 : Int) (m4 m7 : (Int) × ((List (List UInt8)) × ((List (Int)) × (List ((Int) × (Int)))))) => ({ vars := [(0, .v .str .ro x0), (2, .v (.slice 41 (.agg (.pair (.int .i64) (.pair (.int .i64) .str)))) .ro x2), (4, .addr (.mem 4) []), (7, .addr (.mem 7) []), (9, .v (.slice 3 (.int .i64)) (.own .ro) x9), (11, .v (.int .i64) .ro x11)], scr := [], mems := [(4, ⟨(.agg (.pair (.int .i64) (.pair (.slice 9 .str) (.pair (.slice 3 (.int .i64)) (.slice 33 (.agg (.pair (.int .i64) (.int .i64)))))))), .ro, m4⟩), (7, ⟨(.agg (.pair (.int .i64) (.pair (.slice 9 .str) (.pair (.slice 3 (.int .i64)) (.slice 33 (.agg (.pair (.int .i64) (.int .i64)))))))), .ro, m7⟩)] } : ST cx)
noncomputable def u13 (k n9 : Nat) : T13 := fun (x0 : List UInt8) (x2 : List ((Int) × ((Int) × (List UInt8)))) (x9 : List (Int)) (x11 : Int) (m4 m7 : (Int) × ((List (List UInt8)) × ((List (Int)) × (List ((Int) × (Int)))))) => uK (run E h k c27) (s13 x0 x2 x9 x11 m4 m7) (K56 k n9)
noncomputable abbrev l13 (k n9 : Nat) : T13 := fun (x0 : List UInt8) (x2 : List ((Int) × ((Int) × (List UInt8)))) (x9 : List (Int)) (x11 : Int) (m4 m7 : (Int) × ((List (List UInt8)) × ((List (Int)) × (List ((Int) × (Int)))))) => cutK (run E h k c27) (s13 x0 x2 x9 x11 m4 m7) (K56 k n9)
abbrev s10 : (List UInt8) → (List ((Int) × ((Int) × (List UInt8)))) → (List (Int)) → Int → Int → ((Int) × ((List (List UInt8)) × ((List (Int)) × (List ((Int) × (Int)))))) → ((Int) × ((List (List UInt8)) × ((List (Int)) × (List ((Int) × (Int)))))) → ST cx := fun (x0 : List UInt8) (x2 : List ((Int) × ((Int) × (List UInt8)))) (x9 : List (Int)) (x11 x12 : Int) (m4 m7 : (Int) × ((List (List UInt8)) × ((List (Int)) × (List ((Int) × (Int)))))) => ({ vars := [(0, .v .str .ro x0), (2, .v (.slice 41 (.agg (.pair (.int .i64) (.pair (.int .i64) .str)))) .ro x2), (4, .addr (.mem 4) []), (7, .addr (.mem 7) []), (9, .v (.slice 3 (.int .i64)) (.own .ro) x9), (11, .v (.int .i64) .ro x11), (12, .v (.int .i64) .ro x12)], scr := [], mems := [(4, ⟨(.agg (.pair (.int .i64) (.pair (.slice 9 .str) (.pair (.slice 3 (.int .i64)) (.slice 33 (.agg (.pair (.int .i64) (.int .i64)))))))), .ro, m4⟩), (7, ⟨(.agg (.pair (.int .i64) (.pair (.slice 9 .str) (.pair (.slice 3 (.int .i64)) (.slice 33 (.agg (.pair (.int .i64) (.int .i64)))))))), .ro, m7⟩)] } : ST cx)
noncomputable def u10 (k n9 n10 : Nat) : T10 := fun (x0 : List UInt8) (x2 : List ((Int) × ((Int) × (List UInt8)))) (x9 : List (Int)) (x11 x12 : Int) (m4 m7 : (Int) × ((List (List UInt8)) × ((List (Int)) × (List ((Int) × (Int)))))) => uK (loopL E h k c29 (K61 k n9) n10) (s10 x0 x2 x9 x11 x12 m4 m7) ()
noncomputable abbrev l10 (k n9 n10 : Nat) : T10 := fun (x0 : List UInt8) (x2 : List ((Int) × ((Int) × (List UInt8)))) (x9 : List (Int)) (x11 x12 : Int) (m4 m7 : (Int) × ((List (List UInt8)) × ((List (Int)) × (List ((Int) × (Int)))))) => cutK (loopL E h k c29 (K61 k n9) n10) (s10 x0 x2 x9 x11 x12 m4 m7) ()
abbrev s11 : (List UInt8) → (List ((Int) × ((Int) × (List UInt8)))) → ((Int) × ((List (List UInt8)) × ((List (Int)) × (List ((Int) × (Int)))))) → ((Int) × ((List (List UInt8)) × ((List (Int)) × (List ((Int) × (Int)))))) → ST cx := fun (x0 : List UInt8) (x2 : List ((Int) × ((Int) × (List UInt8)))) (m4 m7 : (Int) × ((List (List UInt8)) × ((List (Int)) × (List ((Int) × (Int)))))) => ({ vars := [(0, .v .str .ro x0), (2, .v (.slice 41 (.agg (.pair (.int .i64) (.pair (.int .i64) .str)))) .ro x2), (4, .addr (.mem 4) []), (7, .addr (.mem 7) [])], scr := [], mems := [(4, ⟨(.agg (.pair (.int .i64) (.pair (.slice 9 .str) (.pair (.slice 3 (.int .i64)) (.slice 33 (.agg (.pair (.int .i64) (.int .i64)))))))), .ro, m4⟩), (7, ⟨(.agg (.pair (.int .i64) (.pair (.slice 9 .str) (.pair (.slice 3 (.int .i64)) (.slice 33 (.agg (.pair (.int .i64) (.int .i64)))))))), .ro, m7⟩)] } : ST cx)
noncomputable def u11 (k : Nat) : T11 := fun (x0 : List UInt8) (x2 : List ((Int) × ((Int) × (List UInt8)))) (m4 m7 : (Int) × ((List (List UInt8)) × ((List (Int)) × (List ((Int) × (Int)))))) => uK (run E h k c22) (s11 x0 x2 m4 m7) (K46 k)
noncomputable abbrev l11 (k : Nat) : T11 := fun (x0 : List UInt8) (x2 : List ((Int) × ((Int) × (List UInt8)))) (m4 m7 : (Int) × ((List (List UInt8)) × ((List (Int)) × (List ((Int) × (Int)))))) => cutK (run E h k c22) (s11 x0 x2 m4 m7) (K46 k)
abbrev s9 : (List UInt8) → (List ((Int) × ((Int) × (List UInt8)))) → (List (Int)) → Int → ((Int) × ((List (List UInt8)) × ((List (Int)) × (List ((Int) × (Int)))))) → ((Int) × ((List (List UInt8)) × ((List (Int)) × (List ((Int) × (Int)))))) → ST cx := fun (x0 : List UInt8) (x2 : List ((Int) × ((Int) × (List UInt8)))) (x9 : List (Int)) (x11 : Int) (m4 m7 : (Int) × ((List (List UInt8)) × ((List (Int)) × (List ((Int) × (Int)))))) => ({ vars := [(0, .v .str .ro x0), (2, .v (.slice 41 (.agg (.pair (.int .i64) (.pair (.int .i64) .str)))) .ro x2), (4, .addr (.mem 4) []), (7, .addr (.mem 7) []), (9, .v (.slice 3 (.int .i64)) (.own .ro) x9), (11, .v (.int .i64) .ro x11)], scr := [], mems := [(4, ⟨(.agg (.pair (.int .i64) (.pair (.slice 9 .str) (.pair (.slice 3 (.int .i64)) (.slice 33 (.agg (.pair (.int .i64) (.int .i64)))))))), .ro, m4⟩), (7, ⟨(.agg (.pair (.int .i64) (.pair (.slice 9 .str) (.pair (.slice 3 (.int .i64)) (.slice 33 (.agg (.pair (.int .i64) (.int .i64)))))))), .ro, m7⟩)] } : ST cx)
noncomputable def u9 (k n9 : Nat) : T9 := fun (x0 : List UInt8) (x2 : List ((Int) × ((Int) × (List UInt8)))) (x9 : List (Int)) (x11 : Int) (m4 m7 : (Int) × ((List (List UInt8)) × ((List (Int)) × (List ((Int) × (Int)))))) => uK (loopL E h k c24 (K50 k) n9) (s9 x0 x2 x9 x11 m4 m7) ()
noncomputable abbrev l9 (k n9 : Nat) : T9 := fun (x0 : List UInt8) (x2 : List ((Int) × ((Int) × (List UInt8)))) (x9 : List (Int)) (x11 : Int) (m4 m7 : (Int) × ((List (List UInt8)) × ((List (Int)) × (List ((Int) × (Int)))))) => cutK (loopL E h k c24 (K50 k) n9) (s9 x0 x2 x9 x11 m4 m7) ()
abbrev s8 : (List UInt8) → (List ((Int) × ((Int) × (List UInt8)))) → (List (Int)) → ((Int) × ((List (List UInt8)) × ((List (Int)) × (List ((Int) × (Int)))))) → ((Int) × ((List (List UInt8)) × ((List (Int)) × (List ((Int) × (Int)))))) → ST cx := fun (x0 : List UInt8) (x2 : List ((Int) × ((Int) × (List UInt8)))) (x9 : List (Int)) (m4 m7 : (Int) × ((List (List UInt8)) × ((List (Int)) × (List ((Int) × (Int)))))) => ({ vars := [(0, .v .str .ro x0), (2, .v (.slice 41 (.agg (.pair (.int .i64) (.pair (.int .i64) .str)))) .ro x2), (4, .addr (.mem 4) []), (7, .addr (.mem 7) []), (9, .v (.slice 3 (.int .i64)) (.own .ro) x9)], scr := [], mems := [(4, ⟨(.agg (.pair (.int .i64) (.pair (.slice 9 .str) (.pair (.slice 3 (.int .i64)) (.slice 33 (.agg (.pair (.int .i64) (.int .i64)))))))), .ro, m4⟩), (7, ⟨(.agg (.pair (.int .i64) (.pair (.slice 9 .str) (.pair (.slice 3 (.int .i64)) (.slice 33 (.agg (.pair (.int .i64) (.int .i64)))))))), .ro, m7⟩)] } : ST cx)
noncomputable def u8 (k : Nat) : T8 := fun (x0 : List UInt8) (x2 : List ((Int) × ((Int) × (List UInt8)))) (x9 : List (Int)) (m4 m7 : (Int) × ((List (List UInt8)) × ((List (Int)) × (List ((Int) × (Int)))))) => uK (run E h k c16) (s8 x0 x2 x9 m4 m7) (K33 k)
noncomputable abbrev l8 (k : Nat) : T8 := fun (x0 : List UInt8) (x2 : List ((Int) × ((Int) × (List UInt8)))) (x9 : List (Int)) (m4 m7 : (Int) × ((List (List UInt8)) × ((List (Int)) × (List ((Int) × (Int)))))) => cutK (run E h k c16) (s8 x0 x2 x9 m4 m7) (K33 k)
abbrev s7 : (List UInt8) → (List ((Int) × ((Int) × (List UInt8)))) → (List (Int)) → Int → ((Int) × ((List (List UInt8)) × ((List (Int)) × (List ((Int) × (Int)))))) → ((Int) × ((List (List UInt8)) × ((List (Int)) × (List ((Int) × (Int)))))) → ST cx := fun (x0 : List UInt8) (x2 : List ((Int) × ((Int) × (List UInt8)))) (x9 : List (Int)) (x10 : Int) (m4 m7 : (Int) × ((List (List UInt8)) × ((List (Int)) × (List ((Int) × (Int)))))) => ({ vars := [(0, .v .str .ro x0), (2, .v (.slice 41 (.agg (.pair (.int .i64) (.pair (.int .i64) .str)))) .ro x2), (4, .addr (.mem 4) []), (7, .addr (.mem 7) []), (9, .v (.slice 3 (.int .i64)) (.own .ro) x9), (10, .v (.int .i64) .ro x10)], scr := [], mems := [(4, ⟨(.agg (.pair (.int .i64) (.pair (.slice 9 .str) (.pair (.slice 3 (.int .i64)) (.slice 33 (.agg (.pair (.int .i64) (.int .i64)))))))), .ro, m4⟩), (7, ⟨(.agg (.pair (.int .i64) (.pair (.slice 9 .str) (.pair (.slice 3 (.int .i64)) (.slice 33 (.agg (.pair (.int .i64) (.int .i64)))))))), .ro, m7⟩)] } : ST cx)
noncomputable def u7 (k n7 : Nat) : T7 := fun (x0 : List UInt8) (x2 : List ((Int) × ((Int) × (List UInt8)))) (x9 : List (Int)) (x10 : Int) (m4 m7 : (Int) × ((List (List UInt8)) × ((List (Int)) × (List ((Int) × (Int)))))) => uK (loopL E h k c18 (K37 k) n7) (s7 x0 x2 x9 x10 m4 m7) ()
noncomputable abbrev l7 (k n7 : Nat) : T7 := fun (x0 : List UInt8) (x2 : List ((Int) × ((Int) × (List UInt8)))) (x9 : List (Int)) (x10 : Int) (m4 m7 : (Int) × ((List (List UInt8)) × ((List (Int)) × (List ((Int) × (Int)))))) => cutK (loopL E h k c18 (K37 k) n7) (s7 x0 x2 x9 x10 m4 m7) ()
abbrev s6 : (List UInt8) → (List ((Int) × ((Int) × (List UInt8)))) → ((Int) × ((List (List UInt8)) × ((List (Int)) × (List ((Int) × (Int)))))) → ((Int) × ((List (List UInt8)) × ((List (Int)) × (List ((Int) × (Int)))))) → ST cx := fun (x0 : List UInt8) (x2 : List ((Int) × ((Int) × (List UInt8)))) (m4 m7 : (Int) × ((List (List UInt8)) × ((List (Int)) × (List ((Int) × (Int)))))) => ({ vars := [(0, .v .str .ro x0), (2, .v (.slice 41 (.agg (.pair (.int .i64) (.pair (.int .i64) .str)))) .ro x2), (4, .addr (.mem 4) []), (7, .addr (.mem 7) [])], scr := [], mems := [(4, ⟨(.agg (.pair (.int .i64) (.pair (.slice 9 .str) (.pair (.slice 3 (.int .i64)) (.slice 33 (.agg (.pair (.int .i64) (.int .i64)))))))), .ro, m4⟩), (7, ⟨(.agg (.pair (.int .i64) (.pair (.slice 9 .str) (.pair (.slice 3 (.int .i64)) (.slice 33 (.agg (.pair (.int .i64) (.int .i64)))))))), .ro, m7⟩)] } : ST cx)
noncomputable def u6 (k : Nat) : T6 := fun (x0 : List UInt8) (x2 : List ((Int) × ((Int) × (List UInt8)))) (m4 m7 : (Int) × ((List (List UInt8)) × ((List (Int)) × (List ((Int) × (Int)))))) => uK (run E h k c12) (s6 x0 x2 m4 m7) (K25 k)
noncomputable abbrev l6 (k : Nat) : T6 := fun (x0 : List UInt8) (x2 : List ((Int) × ((Int) × (List UInt8)))) (m4 m7 : (Int) × ((List (List UInt8)) × ((List (Int)) × (List ((Int) × (Int)))))) => cutK (run E h k c12) (s6 x0 x2 m4 m7) (K25 k)
abbrev s5 : (List UInt8) → (List ((Int) × ((Int) × (List UInt8)))) → Bool → ((Int) × ((List (List UInt8)) × ((List (Int)) × (List ((Int) × (Int)))))) → ((Int) × ((List (List UInt8)) × ((List (Int)) × (List ((Int) × (Int)))))) → ST cx := fun (x0 : List UInt8) (x2 : List ((Int) × ((Int) × (List UInt8)))) (x77 : Bool) (m4 m7 : (Int) × ((List (List UInt8)) × ((List (Int)) × (List ((Int) × (Int)))))) => ({ vars := [(0, .v .str .ro x0), (2, .v (.slice 41 (.agg (.pair (.int .i64) (.pair (.int .i64) .str)))) .ro x2), (4, .addr (.mem 4) []), (7, .addr (.mem 7) []), (77, .v .bool .ro x77)], scr := [], mems := [(4, ⟨(.agg (.pair (.int .i64) (.pair (.slice 9 .str) (.pair (.slice 3 (.int .i64)) (.slice 33 (.agg (.pair (.int .i64) (.int .i64)))))))), .ro, m4⟩), (7, ⟨(.agg (.pair (.int .i64) (.pair (.slice 9 .str) (.pair (.slice 3 (.int .i64)) (.slice 33 (.agg (.pair (.int .i64) (.int .i64)))))))), .ro, m7⟩)] } : ST cx)
noncomputable def u5 (k : Nat) : T5 := fun (x0 : List UInt8) (x2 : List ((Int) × ((Int) × (List UInt8)))) (x77 : Bool) (m4 m7 : (Int) × ((List (List UInt8)) × ((List (Int)) × (List ((Int) × (Int)))))) => uK (run E h k c13) (s5 x0 x2 x77 m4 m7) (K27 k)
noncomputable abbrev l5 (k : Nat) : T5 := fun (x0 : List UInt8) (x2 : List ((Int) × ((Int) × (List UInt8)))) (x77 : Bool) (m4 m7 : (Int) × ((List (List UInt8)) × ((List (Int)) × (List ((Int) × (Int)))))) => cutK (run E h k c13) (s5 x0 x2 x77 m4 m7) (K27 k)
abbrev s4 : (List UInt8) → (List ((Int) × ((Int) × (List UInt8)))) → ((Int) × ((List (List UInt8)) × ((List (Int)) × (List ((Int) × (Int)))))) → ST cx := fun (x0 : List UInt8) (x2 : List ((Int) × ((Int) × (List UInt8)))) (m4 : (Int) × ((List (List UInt8)) × ((List (Int)) × (List ((Int) × (Int)))))) => ({ vars := [(0, .v .str .ro x0), (2, .v (.slice 41 (.agg (.pair (.int .i64) (.pair (.int .i64) .str)))) .ro x2), (4, .addr (.mem 4) [])], scr := [], mems := [(4, ⟨(.agg (.pair (.int .i64) (.pair (.slice 9 .str) (.pair (.slice 3 (.int .i64)) (.slice 33 (.agg (.pair (.int .i64) (.int .i64)))))))), .ro, m4⟩)] } : ST cx)
noncomputable def u4 (k : Nat) : T4 := fun (x0 : List UInt8) (x2 : List ((Int) × ((Int) × (List UInt8)))) (m4 : (Int) × ((List (List UInt8)) × ((List (Int)) × (List ((Int) × (Int)))))) => uK (run E h k c7) (s4 x0 x2 m4) (K15 k)
noncomputable abbrev l4 (k : Nat) : T4 := fun (x0 : List UInt8) (x2 : List ((Int) × ((Int) × (List UInt8)))) (m4 : (Int) × ((List (List UInt8)) × ((List (Int)) × (List ((Int) × (Int)))))) => cutK (run E h k c7) (s4 x0 x2 m4) (K15 k)
abbrev s3 : (List UInt8) → (List ((Int) × ((Int) × (List UInt8)))) → Bool → ((Int) × ((List (List UInt8)) × ((List (Int)) × (List ((Int) × (Int)))))) → ST cx := fun (x0 : List UInt8) (x2 : List ((Int) × ((Int) × (List UInt8)))) (x58 : Bool) (m4 : (Int) × ((List (List UInt8)) × ((List (Int)) × (List ((Int) × (Int)))))) => ({ vars := [(0, .v .str .ro x0), (2, .v (.slice 41 (.agg (.pair (.int .i64) (.pair (.int .i64) .str)))) .ro x2), (4, .addr (.mem 4) []), (58, .v .bool .ro x58)], scr := [], mems := [(4, ⟨(.agg (.pair (.int .i64) (.pair (.slice 9 .str) (.pair (.slice 3 (.int .i64)) (.slice 33 (.agg (.pair (.int .i64) (.int .i64)))))))), .ro, m4⟩)] } : ST cx)
noncomputable def u3 (k : Nat) : T3 := fun (x0 : List UInt8) (x2 : List ((Int) × ((Int) × (List UInt8)))) (x58 : Bool) (m4 : (Int) × ((List (List UInt8)) × ((List (Int)) × (List ((Int) × (Int)))))) => uK (run E h k c8) (s3 x0 x2 x58 m4) (K17 k)
noncomputable abbrev l3 (k : Nat) : T3 := fun (x0 : List UInt8) (x2 : List ((Int) × ((Int) × (List UInt8)))) (x58 : Bool) (m4 : (Int) × ((List (List UInt8)) × ((List (Int)) × (List ((Int) × (Int)))))) => cutK (run E h k c8) (s3 x0 x2 x58 m4) (K17 k)
abbrev s2 : (List UInt8) → (List ((Int) × ((Int) × (List UInt8)))) → ((Int) × ((List (List UInt8)) × ((List (Int)) × (List ((Int) × (Int)))))) → ST cx := fun (x0 : List UInt8) (x2 : List ((Int) × ((Int) × (List UInt8)))) (m4 : (Int) × ((List (List UInt8)) × ((List (Int)) × (List ((Int) × (Int)))))) => ({ vars := [(0, .v .str .ro x0), (2, .v (.slice 41 (.agg (.pair (.int .i64) (.pair (.int .i64) .str)))) .ro x2), (4, .addr (.mem 4) [])], scr := [], mems := [(4, ⟨(.agg (.pair (.int .i64) (.pair (.slice 9 .str) (.pair (.slice 3 (.int .i64)) (.slice 33 (.agg (.pair (.int .i64) (.int .i64)))))))), .ro, m4⟩)] } : ST cx)
noncomputable def u2 (k : Nat) : T2 := fun (x0 : List UInt8) (x2 : List ((Int) × ((Int) × (List UInt8)))) (m4 : (Int) × ((List (List UInt8)) × ((List (Int)) × (List ((Int) × (Int)))))) => uK (run E h k c4) (s2 x0 x2 m4) (K9 k)
noncomputable abbrev l2 (k : Nat) : T2 := fun (x0 : List UInt8) (x2 : List ((Int) × ((Int) × (List UInt8)))) (m4 : (Int) × ((List (List UInt8)) × ((List (Int)) × (List ((Int) × (Int)))))) => cutK (run E h k c4) (s2 x0 x2 m4) (K9 k)
abbrev s1 : (List UInt8) → (List ((Int) × ((Int) × (List UInt8)))) → Bool → ((Int) × ((List (List UInt8)) × ((List (Int)) × (List ((Int) × (Int)))))) → ST cx := fun (x0 : List UInt8) (x2 : List ((Int) × ((Int) × (List UInt8)))) (x36 : Bool) (m4 : (Int) × ((List (List UInt8)) × ((List (Int)) × (List ((Int) × (Int)))))) => ({ vars := [(0, .v .str .ro x0), (2, .v (.slice 41 (.agg (.pair (.int .i64) (.pair (.int .i64) .str)))) .ro x2), (4, .addr (.mem 4) []), (36, .v .bool .ro x36)], scr := [], mems := [(4, ⟨(.agg (.pair (.int .i64) (.pair (.slice 9 .str) (.pair (.slice 3 (.int .i64)) (.slice 33 (.agg (.pair (.int .i64) (.int .i64)))))))), .ro, m4⟩)] } : ST cx)
noncomputable def u1 (k : Nat) : T1 := fun (x0 : List UInt8) (x2 : List ((Int) × ((Int) × (List UInt8)))) (x36 : Bool) (m4 : (Int) × ((List (List UInt8)) × ((List (Int)) × (List ((Int) × (Int)))))) => uK (run E h k c5) (s1 x0 x2 x36 m4) (K11 k)
noncomputable abbrev l1 (k : Nat) : T1 := fun (x0 : List UInt8) (x2 : List ((Int) × ((Int) × (List UInt8)))) (x36 : Bool) (m4 : (Int) × ((List (List UInt8)) × ((List (Int)) × (List ((Int) × (Int)))))) => cutK (run E h k c5) (s1 x0 x2 x36 m4) (K11 k)
noncomputable def u0 (k : Nat) : T0 := fun (x0 : List UInt8) (x1 : (Int) × ((List (List UInt8)) × ((List (Int)) × (List ((Int) × (Int)))))) (x2 : List ((Int) × ((Int) × (List UInt8)))) => runOf (S := cx) E h k Try.f4 [.val .str, .val (.agg (.pair (.int .i64) (.pair (.slice 9 .str) (.pair (.slice 3 (.int .i64)) (.slice 33 (.agg (.pair (.int .i64) (.int .i64)))))))), .val (.slice 41 (.agg (.pair (.int .i64) (.pair (.int .i64) .str))))] .bool .ro (x0, x1, x2, ())
def t14 (f10 : T10) : T14 := fun (x0 : List UInt8) (x2 : List ((Int) × ((Int) × (List UInt8)))) (x9 : List (Int)) (x11 x12 : Int) (m4 m7 : (Int) × ((List (List UInt8)) × ((List (Int)) × (List ((Int) × (Int)))))) => 
  (f10 x0 x2 x9 x11 (w64 (x12 + (1 : Int))) m4 m7)
theorem e14 (k n9 n10 : Nat) : u14 k n9 n10 = t14 (l10 k n9 n10) := by kernel_rfl
theorem g14 (k n9 n10 : Nat) : l14 k n9 n10 = u14 k n9 n10 := funext fun _ => funext fun _ => funext fun _ => funext fun _ => funext fun _ => funext fun _ => funext fun _ => cut_u _ _ _
theorem d14 {x10 y10 : T10} (h10 : x10 = y10) : t14 x10 = t14 y10 := by subst h10; rfl
def p14 (k : Nat) (a9 : T9) (a10 : T10) : T14 := t14 a10
theorem o14 (k n9 n10 : Nat) (a9 : T9) (a10 : T10) (h9 : l9 k n9 = a9) (h10 : l10 k n9 n10 = a10) : l14 k n9 n10 = p14 k a9 a10 := (Eq.trans (b := u14 k n9 n10) (g14 k n9 n10) (Eq.trans (b := t14 (l10 k n9 n10)) (e14 k n9 n10) (Eq.trans (b := t14 a10) (d14 h10) (by kernel_rfl))))
def t12 (f14 : T14) : T12 := fun (x0 : List UInt8) (x2 : List ((Int) × ((Int) × (List UInt8)))) (x9 : List (Int)) (x11 x12 : Int) (x145 : Bool) (m4 m7 : (Int) × ((List (List UInt8)) × ((List (Int)) × (List ((Int) × (Int)))))) => 
  (iteB x145 (some (true, ())) (f14 x0 x2 x9 x11 x12 m4 m7))
theorem e12 (k n9 n10 : Nat) : u12 k n9 n10 = t12 (l14 k n9 n10) := by kernel_rfl
theorem g12 (k n9 n10 : Nat) : l12 k n9 n10 = u12 k n9 n10 := funext fun _ => funext fun _ => funext fun _ => funext fun _ => funext fun _ => funext fun _ => funext fun _ => funext fun _ => cut_u _ _ _
theorem d12 {x14 y14 : T14} (h14 : x14 = y14) : t12 x14 = t12 y14 := by subst h14; rfl
def p12 (k : Nat) (a9 : T9) (a10 : T10) : T12 := t12 (p14 k a9 a10)
theorem o12 (k n9 n10 : Nat) (a9 : T9) (a10 : T10) (h9 : l9 k n9 = a9) (h10 : l10 k n9 n10 = a10) : l12 k n9 n10 = p12 k a9 a10 := (Eq.trans (b := u12 k n9 n10) (g12 k n9 n10) (Eq.trans (b := t12 (l14 k n9 n10)) (e12 k n9 n10) (Eq.trans (b := t12 (p14 k a9 a10)) (d12 (o14 k n9 n10 a9 a10 h9 h10)) (by kernel_rfl))))
def t13 (f9 : T9) : T13 := fun (x0 : List UInt8) (x2 : List ((Int) × ((Int) × (List UInt8)))) (x9 : List (Int)) (x11 : Int) (m4 m7 : (Int) × ((List (List UInt8)) × ((List (Int)) × (List ((Int) × (Int)))))) => 
  (f9 x0 x2 x9 (w64 (x11 + (1 : Int))) m4 m7)
theorem e13 (k n9 : Nat) : u13 k n9 = t13 (l9 k n9) := by kernel_rfl
theorem g13 (k n9 : Nat) : l13 k n9 = u13 k n9 := funext fun _ => funext fun _ => funext fun _ => funext fun _ => funext fun _ => funext fun _ => cut_u _ _ _
theorem d13 {x9 y9 : T9} (h9 : x9 = y9) : t13 x9 = t13 y9 := by subst h9; rfl
def p13 (k : Nat) (a9 : T9) : T13 := t13 a9
theorem o13 (k n9 : Nat) (a9 : T9) (h9 : l9 k n9 = a9) : l13 k n9 = p13 k a9 := (Eq.trans (b := u13 k n9) (g13 k n9) (Eq.trans (b := t13 (l9 k n9)) (e13 k n9) (Eq.trans (b := t13 a9) (d13 h9) (by kernel_rfl))))
def t10 (f12 : T12) (f13 : T13) : T10 := fun (x0 : List UInt8) (x2 : List ((Int) × ((Int) × (List UInt8)))) (x9 : List (Int)) (x11 x12 : Int) (m4 m7 : (Int) × ((List (List UInt8)) × ((List (Int)) × (List ((Int) × (Int)))))) => 
  (iteB (decide (x12 < ((List.length x2 : Nat) : Int))) (withinR x11 (List.length x9) fun q17 => (withinR x12 (List.length x2) fun q18 => (iteB (decide ((List.getD x2 q18 ((0 : Int), ((0 : Int), ([] : List UInt8)))).1 ≤ (List.getD x9 q17 (0 : Int)))) (withinR x11 (List.length x9) fun q19 => (withinR x12 (List.length x2) fun q20 => (withinR x12 (List.length x2) fun q21 => (f12 x0 x2 x9 x11 x12 (decide ((List.getD x9 q19 (0 : Int)) ≤ (w64 ((List.getD x2 q20 ((0 : Int), ((0 : Int), ([] : List UInt8)))).1 + (List.getD x2 q21 ((0 : Int), ((0 : Int), ([] : List UInt8)))).2.1)))) m4 m7)))) (f12 x0 x2 x9 x11 x12 false m4 m7)))) (f13 x0 x2 x9 x11 m4 m7))
theorem e10 (k n9 n10 : Nat) : u10 k n9 (n10 + 1) = t10 (l12 k n9 n10) (l13 k n9) := by kernel_rfl
theorem g10 (k n9 n10 : Nat) : l10 k n9 (n10 + 1) = u10 k n9 (n10 + 1) := funext fun _ => funext fun _ => funext fun _ => funext fun _ => funext fun _ => funext fun _ => funext fun _ => cut_u _ _ _
theorem d10 {x12 y12 : T12} {x13 y13 : T13} (h12 : x12 = y12) (h13 : x13 = y13) : t10 x12 x13 = t10 y12 y13 := by subst h12; subst h13; rfl
def p10 (k : Nat) (a9 : T9) : Nat → T10
  | 0 => fun _ _ _ _ _ _ _ => none
  | n10 + 1 => t10 (p12 k a9 (p10 k a9 n10)) (p13 k a9)
theorem o10 (k n9 : Nat) (a9 : T9) (h9 : l9 k n9 = a9) : ∀ n10, l10 k n9 n10 = p10 k a9 n10 := by
  intro n10
  induction n10 with
  | zero => kernel_rfl
  | succ n10 ih => exact (Eq.trans (b := u10 k n9 (n10 + 1)) (g10 k n9 n10) (Eq.trans (b := t10 (l12 k n9 n10) (l13 k n9)) (e10 k n9 n10) (Eq.trans (b := t10 (p12 k a9 (p10 k a9 n10)) (p13 k a9)) (d10 (o12 k n9 n10 a9 (p10 k a9 n10) h9 ih) (o13 k n9 a9 h9)) (by kernel_rfl))))
def t11 : T11 := fun (x0 : List UInt8) (x2 : List ((Int) × ((Int) × (List UInt8)))) (m4 m7 : (Int) × ((List (List UInt8)) × ((List (Int)) × (List ((Int) × (Int)))))) => 
  (bindR (s_ref04_Back (x0, (x2, ()))) fun r22 => (bindR (s_marks_Move (m7, (r22.1, ()))) fun r23 => (bindR (s_ref25_Same (r23.1, (m4, ()))) fun r24 => (some (r24.1, ())))))
theorem e11 (k : Nat) : u11 k = t11 := by kernel_rfl
theorem g11 (k : Nat) : l11 k = u11 k := funext fun _ => funext fun _ => funext fun _ => funext fun _ => cut_u _ _ _
def p11 (k : Nat) : T11 := t11
theorem o11 (k : Nat) : l11 k = p11 k := (Eq.trans (b := u11 k) (g11 k) (Eq.trans (b := t11) (e11 k) (by kernel_rfl)))
def t9 (f10 : T10) (f11 : T11) : T9 := fun (x0 : List UInt8) (x2 : List ((Int) × ((Int) × (List UInt8)))) (x9 : List (Int)) (x11 : Int) (m4 m7 : (Int) × ((List (List UInt8)) × ((List (Int)) × (List ((Int) × (Int)))))) => 
  (iteB (decide (x11 < ((List.length x9 : Nat) : Int))) (f10 x0 x2 x9 x11 (0 : Int) m4 m7) (f11 x0 x2 m4 m7))
theorem e9 (k n9 : Nat) : u9 k (n9 + 1) = t9 (l10 k n9 k) (l11 k) := by kernel_rfl
theorem g9 (k n9 : Nat) : l9 k (n9 + 1) = u9 k (n9 + 1) := funext fun _ => funext fun _ => funext fun _ => funext fun _ => funext fun _ => funext fun _ => cut_u _ _ _
theorem d9 {x10 y10 : T10} {x11 y11 : T11} (h10 : x10 = y10) (h11 : x11 = y11) : t9 x10 x11 = t9 y10 y11 := by subst h10; subst h11; rfl
def p9 (k : Nat) : Nat → T9
  | 0 => fun _ _ _ _ _ _ => none
  | n9 + 1 => t9 (p10 k (p9 k n9) k) (p11 k)
theorem o9 (k : Nat) : ∀ n9, l9 k n9 = p9 k n9 := by
  intro n9
  induction n9 with
  | zero => kernel_rfl
  | succ n9 ih => exact (Eq.trans (b := u9 k (n9 + 1)) (g9 k n9) (Eq.trans (b := t9 (l10 k n9 k) (l11 k)) (e9 k n9) (Eq.trans (b := t9 (p10 k (p9 k n9) k) (p11 k)) (d9 (o10 k n9 (p9 k n9) ih k) (o11 k)) (by kernel_rfl))))
def t8 (f9 : T9) : T8 := fun (x0 : List UInt8) (x2 : List ((Int) × ((Int) × (List UInt8)))) (x9 : List (Int)) (m4 m7 : (Int) × ((List (List UInt8)) × ((List (Int)) × (List ((Int) × (Int)))))) => 
  (f9 x0 x2 x9 (0 : Int) m4 m7)
theorem e8 (k : Nat) : u8 k = t8 (l9 k k) := by kernel_rfl
theorem g8 (k : Nat) : l8 k = u8 k := funext fun _ => funext fun _ => funext fun _ => funext fun _ => funext fun _ => cut_u _ _ _
theorem d8 {x9 y9 : T9} (h9 : x9 = y9) : t8 x9 = t8 y9 := by subst h9; rfl
def p8 (k : Nat) : T8 := t8 (p9 k k)
theorem o8 (k : Nat) : l8 k = p8 k := (Eq.trans (b := u8 k) (g8 k) (Eq.trans (b := t8 (l9 k k)) (e8 k) (Eq.trans (b := t8 (p9 k k)) (d8 (o9 k k)) (by kernel_rfl))))
def t7 (f7 : T7) (f8 : T8) : T7 := fun (x0 : List UInt8) (x2 : List ((Int) × ((Int) × (List UInt8)))) (x9 : List (Int)) (x10 : Int) (m4 m7 : (Int) × ((List (List UInt8)) × ((List (Int)) × (List ((Int) × (Int)))))) => 
  (iteB (decide (x10 < ((List.length m4.2.2.2 : Nat) : Int))) (withinR x10 (List.length m4.2.2.2) fun q15 => (withinR x10 (List.length m4.2.2.2) fun q16 => (mustR (room x9 ([(List.getD m4.2.2.2 q15 ((0 : Int), (0 : Int))).1, (List.getD m4.2.2.2 q16 ((0 : Int), (0 : Int))).2] : List (Int))) (f7 x0 x2 (x9 ++ ([(List.getD m4.2.2.2 q15 ((0 : Int), (0 : Int))).1, (List.getD m4.2.2.2 q16 ((0 : Int), (0 : Int))).2] : List (Int))) (w64 (x10 + (1 : Int))) m4 m7)))) (f8 x0 x2 x9 m4 m7))
theorem e7 (k n7 : Nat) : u7 k (n7 + 1) = t7 (l7 k n7) (l8 k) := by kernel_rfl
theorem g7 (k n7 : Nat) : l7 k (n7 + 1) = u7 k (n7 + 1) := funext fun _ => funext fun _ => funext fun _ => funext fun _ => funext fun _ => funext fun _ => cut_u _ _ _
theorem d7 {x7 y7 : T7} {x8 y8 : T8} (h7 : x7 = y7) (h8 : x8 = y8) : t7 x7 x8 = t7 y7 y8 := by subst h7; subst h8; rfl
def p7 (k : Nat) : Nat → T7
  | 0 => fun _ _ _ _ _ _ => none
  | n7 + 1 => t7 (p7 k n7) (p8 k)
theorem o7 (k : Nat) : ∀ n7, l7 k n7 = p7 k n7 := by
  intro n7
  induction n7 with
  | zero => kernel_rfl
  | succ n7 ih => exact (Eq.trans (b := u7 k (n7 + 1)) (g7 k n7) (Eq.trans (b := t7 (l7 k n7) (l8 k)) (e7 k n7) (Eq.trans (b := t7 (p7 k n7) (p8 k)) (d7 ih (o8 k)) (by kernel_rfl))))
def t6 (f7 : T7) : T6 := fun (x0 : List UInt8) (x2 : List ((Int) × ((Int) × (List UInt8)))) (m4 m7 : (Int) × ((List (List UInt8)) × ((List (Int)) × (List ((Int) × (Int)))))) => 
  (mustR (room ([m4.1] : List (Int)) m4.2.2.1) (f7 x0 x2 (([m4.1] : List (Int)) ++ m4.2.2.1) (0 : Int) m4 m7))
theorem e6 (k : Nat) : u6 k = t6 (l7 k k) := by kernel_rfl
theorem g6 (k : Nat) : l6 k = u6 k := funext fun _ => funext fun _ => funext fun _ => funext fun _ => cut_u _ _ _
theorem d6 {x7 y7 : T7} (h7 : x7 = y7) : t6 x7 = t6 y7 := by subst h7; rfl
def p6 (k : Nat) : T6 := t6 (p7 k k)
theorem o6 (k : Nat) : l6 k = p6 k := (Eq.trans (b := u6 k) (g6 k) (Eq.trans (b := t6 (l7 k k)) (e6 k) (Eq.trans (b := t6 (p7 k k)) (d6 (o7 k k)) (by kernel_rfl))))
def t5 (f6 : T6) : T5 := fun (x0 : List UInt8) (x2 : List ((Int) × ((Int) × (List UInt8)))) (x77 : Bool) (m4 m7 : (Int) × ((List (List UInt8)) × ((List (Int)) × (List ((Int) × (Int)))))) => 
  (iteB x77 (some (false, ())) (f6 x0 x2 m4 m7))
theorem e5 (k : Nat) : u5 k = t5 (l6 k) := by kernel_rfl
theorem g5 (k : Nat) : l5 k = u5 k := funext fun _ => funext fun _ => funext fun _ => funext fun _ => funext fun _ => cut_u _ _ _
theorem d5 {x6 y6 : T6} (h6 : x6 = y6) : t5 x6 = t5 y6 := by subst h6; rfl
def p5 (k : Nat) : T5 := t5 (p6 k)
theorem o5 (k : Nat) : l5 k = p5 k := (Eq.trans (b := u5 k) (g5 k) (Eq.trans (b := t5 (l6 k)) (e5 k) (Eq.trans (b := t5 (p6 k)) (d5 (o6 k)) (by kernel_rfl))))
def t4 (f5 : T5) : T4 := fun (x0 : List UInt8) (x2 : List ((Int) × ((Int) × (List UInt8)))) (m4 : (Int) × ((List (List UInt8)) × ((List (Int)) × (List ((Int) × (Int)))))) => 
  (bindR (s_marks_Move (m4, (x2, ()))) fun r10 => (bindR (s_ref04_Apply (x0, (x2, ()))) fun r11 => (bindR (s_ref25_Move (m4, (x2, ()))) fun r12 => (bindR (s_ref25_Same (r10.1, (r12.1, ()))) fun r13 => (iteB (notB r13.1) (f5 x0 x2 true m4 r10.1) (bindR (s_ref25_Right (r10.1, (((List.length r11.1 : Nat) : Int), ()))) fun r14 => (f5 x0 x2 (notB r14.1) m4 r10.1)))))))
theorem e4 (k : Nat) : u4 k = t4 (l5 k) := by kernel_rfl
theorem g4 (k : Nat) : l4 k = u4 k := funext fun _ => funext fun _ => funext fun _ => cut_u _ _ _
theorem d4 {x5 y5 : T5} (h5 : x5 = y5) : t4 x5 = t4 y5 := by subst h5; rfl
def p4 (k : Nat) : T4 := t4 (p5 k)
theorem o4 (k : Nat) : l4 k = p4 k := (Eq.trans (b := u4 k) (g4 k) (Eq.trans (b := t4 (l5 k)) (e4 k) (Eq.trans (b := t4 (p5 k)) (d4 (o5 k)) (by kernel_rfl))))
def t3 (f4 : T4) : T3 := fun (x0 : List UInt8) (x2 : List ((Int) × ((Int) × (List UInt8)))) (x58 : Bool) (m4 : (Int) × ((List (List UInt8)) × ((List (Int)) × (List ((Int) × (Int)))))) => 
  (iteB x58 (some (true, ())) (f4 x0 x2 m4))
theorem e3 (k : Nat) : u3 k = t3 (l4 k) := by kernel_rfl
theorem g3 (k : Nat) : l3 k = u3 k := funext fun _ => funext fun _ => funext fun _ => funext fun _ => cut_u _ _ _
theorem d3 {x4 y4 : T4} (h4 : x4 = y4) : t3 x4 = t3 y4 := by subst h4; rfl
def p3 (k : Nat) : T3 := t3 (p4 k)
theorem o3 (k : Nat) : l3 k = p3 k := (Eq.trans (b := u3 k) (g3 k) (Eq.trans (b := t3 (l4 k)) (e3 k) (Eq.trans (b := t3 (p4 k)) (d3 (o4 k)) (by kernel_rfl))))
def t2 (f3 : T3) : T2 := fun (x0 : List UInt8) (x2 : List ((Int) × ((Int) × (List UInt8)))) (m4 : (Int) × ((List (List UInt8)) × ((List (Int)) × (List ((Int) × (Int)))))) => 
  (bindR (s_ref25_Right (m4, (((List.length x0 : Nat) : Int), ()))) fun r8 => (iteB (notB r8.1) (f3 x0 x2 true m4) (bindR (s_ref04_Check (x0, (x2, ()))) fun r9 => (f3 x0 x2 (!decide (r9.1 = (0 : Int))) m4))))
theorem e2 (k : Nat) : u2 k = t2 (l3 k) := by kernel_rfl
theorem g2 (k : Nat) : l2 k = u2 k := funext fun _ => funext fun _ => funext fun _ => cut_u _ _ _
theorem d2 {x3 y3 : T3} (h3 : x3 = y3) : t2 x3 = t2 y3 := by subst h3; rfl
def p2 (k : Nat) : T2 := t2 (p3 k)
theorem o2 (k : Nat) : l2 k = p2 k := (Eq.trans (b := u2 k) (g2 k) (Eq.trans (b := t2 (l3 k)) (e2 k) (Eq.trans (b := t2 (p3 k)) (d2 (o3 k)) (by kernel_rfl))))
def t1 (f2 : T2) : T1 := fun (x0 : List UInt8) (x2 : List ((Int) × ((Int) × (List UInt8)))) (x36 : Bool) (m4 : (Int) × ((List (List UInt8)) × ((List (Int)) × (List ((Int) × (Int)))))) => 
  (iteB x36 (iteB (decide ((500 : Int) < ((List.length x0 : Nat) : Int))) (some (true, ())) (bindR (s_law25_Great (m4, ())) fun r6 => (iteB r6.1 (some (true, ())) (bindR (s_law04_Great (x2, ())) fun r7 => (some (r7.1, ())))))) (f2 x0 x2 m4))
theorem e1 (k : Nat) : u1 k = t1 (l2 k) := by kernel_rfl
theorem g1 (k : Nat) : l1 k = u1 k := funext fun _ => funext fun _ => funext fun _ => funext fun _ => cut_u _ _ _
theorem d1 {x2 y2 : T2} (h2 : x2 = y2) : t1 x2 = t1 y2 := by subst h2; rfl
def p1 (k : Nat) : T1 := t1 (p2 k)
theorem o1 (k : Nat) : l1 k = p1 k := (Eq.trans (b := u1 k) (g1 k) (Eq.trans (b := t1 (l2 k)) (e1 k) (Eq.trans (b := t1 (p2 k)) (d1 (o2 k)) (by kernel_rfl))))
def t0 (f1 : T1) : T0 := fun (x0 : List UInt8) (x1 : (Int) × ((List (List UInt8)) × ((List (Int)) × (List ((Int) × (Int)))))) (x2 : List ((Int) × ((Int) × (List UInt8)))) => 
  (bindR (s_law25_alive ()) fun r1 => (iteB (notB r1.1) (some (false, ())) (iteB (decide ((500 : Int) < ((List.length x0 : Nat) : Int))) (f1 x0 x2 true x1) (bindR (s_law25_Great (x1, ())) fun r2 => (iteB r2.1 (f1 x0 x2 true x1) (bindR (s_law04_Great (x2, ())) fun r3 => (iteB r3.1 (f1 x0 x2 true x1) (bindR (s_marks_Right (x1, (((List.length x0 : Nat) : Int), ()))) fun r4 => (bindR (s_ref25_Right (x1, (((List.length x0 : Nat) : Int), ()))) fun r5 => (f1 x0 x2 (!(r4.1 == r5.1)) x1))))))))))
theorem e0 (k : Nat) : u0 k = t0 (l1 k) := by kernel_rfl
theorem d0 {x1 y1 : T1} (h1 : x1 = y1) : t0 x1 = t0 y1 := by subst h1; rfl
def p0 (k : Nat) : T0 := t0 (p1 k)
theorem o0 (k : Nat) : u0 k = p0 k := (Eq.trans (b := t0 (l1 k)) (e0 k) (Eq.trans (b := t0 (p1 k)) (d0 (o1 k)) (by kernel_rfl)))
end law25_MarksMove
def s_law25_MarksMove (a : (List UInt8) × (((Int) × ((List (List UInt8)) × ((List (Int)) × (List ((Int) × (Int)))))) × ((List ((Int) × ((Int) × (List UInt8)))) × (Unit)))) : Option ((Bool) × (Unit)) := law25_MarksMove.p0 (fuel) a.1 a.2.1 a.2.2.1
noncomputable def F_law25_MarksMove : FSpec cx.toNm := { ps := [.val .str, .val (.agg (.pair (.int .i64) (.pair (.slice 9 .str) (.pair (.slice 3 (.int .i64)) (.slice 33 (.agg (.pair (.int .i64) (.int .i64)))))))), .val (.slice 41 (.agg (.pair (.int .i64) (.pair (.int .i64) .str))))], nres := 1, rt := .bool, rm := .ro, f := s_law25_MarksMove }
theorem w_law25_MarksMove (a : (List UInt8) × (((Int) × ((List (List UInt8)) × ((List (Int)) × (List ((Int) × (Int)))))) × ((List ((Int) × ((Int) × (List UInt8)))) × (Unit)))) : runOf (S := cx) law25_MarksMove.E law25_MarksMove.h (fuel) Try.f4 F_law25_MarksMove.ps F_law25_MarksMove.rt F_law25_MarksMove.rm a = F_law25_MarksMove.f a := Eq.trans (b := law25_MarksMove.u0 (fuel) a.1 a.2.1 a.2.2.1) (by kernel_rfl) (Eq.trans (b := law25_MarksMove.p0 (fuel) a.1 a.2.1 a.2.2.1) (congrFun (congrFun (congrFun (law25_MarksMove.o0 (fuel)) a.1) a.2.1) a.2.2.1) (by kernel_rfl))
theorem ok_law25_MarksMove : FnOk Try.prog F_law25_MarksMove 4 := fn_of (hn := law25_MarksMove.h) (E := law25_MarksMove.E) cxOk (tysT _) (fs_cons ok_law25_alive (fs_cons ok_law04_Great (fs_cons ok_ref04_Check (fs_cons ok_marks_Move (fs_cons ok_law25_Great (fs_cons ok_marks_Right (fs_cons ok_ref25_Right (fs_cons ok_ref04_Apply (fs_cons ok_ref25_Same (fs_cons ok_ref25_Move (fs_cons ok_ref04_Back fs_nil))))))))))) follows Try.func4 (by kernel_rfl) (fun a r h => ⟨fuel, Eq.trans (w_law25_MarksMove a) h⟩)
end
end Go.Proofs.Ytdifekkamjoepaa.Vm.Rp
