/- What the functions of marks compute, as plain functions; that they do. -/
import Derived.Test.YtdifekkamjoepaaFnsEdit2
import Derived.Test.YtdifekkamjoepaaIns
namespace Go.Proofs.Ytdifekkamjoepaa.Vm.Rp
open Go Go.Proofs.Ytdifekkamjoepaa.Vm Go.Proofs
set_option linter.unusedVariables false
set_option maxRecDepth 100000
noncomputable section
namespace slices_Clone
noncomputable def E : Env cx := { tys := tys, fs := fsOf [] }
abbrev R := Option ((List (List UInt8)) × (Unit))
abbrev C := Exit → ST cx → R
noncomputable def b : Code := bodyC Try.f112
noncomputable def h : Hint := { vs := [0, 2], nil := [(5, (.own .ro)), (2, (.own .ro))], cuts := [], ret := ([2], []), ords := [] }
noncomputable def K0 : C := fin (S := cx) E Try.f112.results.toList (.slice 9 .str) (.own .ro) [] []
noncomputable def c0 : Code := subC b [1]
noncomputable def K1 (k : Nat) : C := outD h c0 K0
noncomputable def K2 (k : Nat) : C := seqC E h k c0 K0
noncomputable def c1 : Code := subC b [1, 1]
noncomputable def K3 (k : Nat) : C := outD h c1 (K1 k)
noncomputable def K4 (k : Nat) : C := seqC E h k c1 (K1 k)
noncomputable def c2 : Code := subC b [1, 0, 1]
noncomputable def K5 (k : Nat) : C := outD h c2 (K4 k)
noncomputable def K6 (k : Nat) : C := seqC E h k c2 (K4 k)
noncomputable def c3 : Code := subC b [1, 0, 1, 0, 1]
noncomputable def K7 (k : Nat) : C := outD h c3 (K5 k)
noncomputable def K8 (k : Nat) : C := seqC E h k c3 (K5 k)
noncomputable def c4 : Code := subC b [1, 1, 1]
noncomputable def K9 (k : Nat) : C := outD h c4 (K3 k)
noncomputable def K10 (k : Nat) : C := seqC E h k c4 (K3 k)
abbrev T0 := (List (List UInt8)) → R
noncomputable def u0 (k : Nat) : T0 := fun (x0 : List (List UInt8)) => runOf (S := cx) E h k Try.f112 [.val (.slice 9 .str)] (.slice 9 .str) (.own .ro) (x0, ())
def t0 : T0 := fun (x0 : List (List UInt8)) => 
  (nilR (List.isEmpty x0) (some (([] : List (List UInt8)), ())) (mustR (room ([] : List (List UInt8)) x0) (some ((([] : List (List UInt8)) ++ x0), ()))))
theorem e0 (k : Nat) : u0 k = t0 := by kernel_rfl
def p0 (k : Nat) : T0 := t0
theorem o0 (k : Nat) : u0 k = p0 k := (Eq.trans (b := t0) (e0 k) (by kernel_rfl))
end slices_Clone
def s_slices_Clone (a : (List (List UInt8)) × (Unit)) : Option ((List (List UInt8)) × (Unit)) := slices_Clone.p0 (fuel) a.1
noncomputable def F_slices_Clone : FSpec cx.toNm := { ps := [.val (.slice 9 .str)], nres := 1, rt := (.slice 9 .str), rm := (.own .ro), f := s_slices_Clone }
theorem w_slices_Clone (a : (List (List UInt8)) × (Unit)) : runOf (S := cx) slices_Clone.E slices_Clone.h (fuel) Try.f112 F_slices_Clone.ps F_slices_Clone.rt F_slices_Clone.rm a = F_slices_Clone.f a := Eq.trans (b := slices_Clone.u0 (fuel) a.1) (by kernel_rfl) (Eq.trans (b := slices_Clone.p0 (fuel) a.1) (congrFun (slices_Clone.o0 (fuel)) a.1) (by kernel_rfl))
theorem ok_slices_Clone : FnOk Try.prog F_slices_Clone 112 := fn_of (hn := slices_Clone.h) (E := slices_Clone.E) cxOk (tysT _) fs_nil follows Try.func112 (by kernel_rfl) (fun a r h => ⟨fuel, Eq.trans (w_slices_Clone a) h⟩)
namespace slices_Clonex
noncomputable def E : Env cx := { tys := tys, fs := fsOf [] }
abbrev R := Option ((List (Int)) × (Unit))
abbrev C := Exit → ST cx → R
noncomputable def b : Code := bodyC Try.f113
noncomputable def h : Hint := { vs := [0, 2], nil := [(5, (.own .ro)), (2, (.own .ro))], cuts := [], ret := ([2], []), ords := [] }
noncomputable def K0 : C := fin (S := cx) E Try.f113.results.toList (.slice 3 (.int .i64)) (.own .ro) [] []
noncomputable def c0 : Code := subC b [1]
noncomputable def K1 (k : Nat) : C := outD h c0 K0
noncomputable def K2 (k : Nat) : C := seqC E h k c0 K0
noncomputable def c1 : Code := subC b [1, 1]
noncomputable def K3 (k : Nat) : C := outD h c1 (K1 k)
noncomputable def K4 (k : Nat) : C := seqC E h k c1 (K1 k)
noncomputable def c2 : Code := subC b [1, 0, 1]
noncomputable def K5 (k : Nat) : C := outD h c2 (K4 k)
noncomputable def K6 (k : Nat) : C := seqC E h k c2 (K4 k)
noncomputable def c3 : Code := subC b [1, 0, 1, 0, 1]
noncomputable def K7 (k : Nat) : C := outD h c3 (K5 k)
noncomputable def K8 (k : Nat) : C := seqC E h k c3 (K5 k)
noncomputable def c4 : Code := subC b [1, 1, 1]
noncomputable def K9 (k : Nat) : C := outD h c4 (K3 k)
noncomputable def K10 (k : Nat) : C := seqC E h k c4 (K3 k)
abbrev T0 := (List (Int)) → R
noncomputable def u0 (k : Nat) : T0 := fun (x0 : List (Int)) => runOf (S := cx) E h k Try.f113 [.val (.slice 3 (.int .i64))] (.slice 3 (.int .i64)) (.own .ro) (x0, ())
def t0 : T0 := fun (x0 : List (Int)) => 
  (nilR (List.isEmpty x0) (some (([] : List (Int)), ())) (mustR (room ([] : List (Int)) x0) (some ((([] : List (Int)) ++ x0), ()))))
theorem e0 (k : Nat) : u0 k = t0 := by kernel_rfl
def p0 (k : Nat) : T0 := t0
theorem o0 (k : Nat) : u0 k = p0 k := (Eq.trans (b := t0) (e0 k) (by kernel_rfl))
end slices_Clonex
def s_slices_Clonex (a : (List (Int)) × (Unit)) : Option ((List (Int)) × (Unit)) := slices_Clonex.p0 (fuel) a.1
noncomputable def F_slices_Clonex : FSpec cx.toNm := { ps := [.val (.slice 3 (.int .i64))], nres := 1, rt := (.slice 3 (.int .i64)), rm := (.own .ro), f := s_slices_Clonex }
theorem w_slices_Clonex (a : (List (Int)) × (Unit)) : runOf (S := cx) slices_Clonex.E slices_Clonex.h (fuel) Try.f113 F_slices_Clonex.ps F_slices_Clonex.rt F_slices_Clonex.rm a = F_slices_Clonex.f a := Eq.trans (b := slices_Clonex.u0 (fuel) a.1) (by kernel_rfl) (Eq.trans (b := slices_Clonex.p0 (fuel) a.1) (congrFun (slices_Clonex.o0 (fuel)) a.1) (by kernel_rfl))
theorem ok_slices_Clonex : FnOk Try.prog F_slices_Clonex 113 := fn_of (hn := slices_Clonex.h) (E := slices_Clonex.E) cxOk (tysT _) fs_nil follows Try.func113 (by kernel_rfl) (fun a r h => ⟨fuel, Eq.trans (w_slices_Clonex a) h⟩)
namespace slices_Clonexx
noncomputable def E : Env cx := { tys := tys, fs := fsOf [] }
abbrev R := Option ((List ((Int) × (Int))) × (Unit))
abbrev C := Exit → ST cx → R
noncomputable def b : Code := bodyC Try.f114
noncomputable def h : Hint := { vs := [0, 2], nil := [(5, (.own .ro)), (2, (.own .ro))], cuts := [], ret := ([2], []), ords := [] }
noncomputable def K0 : C := fin (S := cx) E Try.f114.results.toList (.slice 33 (.agg (.pair (.int .i64) (.int .i64)))) (.own .ro) [] []
noncomputable def c0 : Code := subC b [1]
noncomputable def K1 (k : Nat) : C := outD h c0 K0
noncomputable def K2 (k : Nat) : C := seqC E h k c0 K0
noncomputable def c1 : Code := subC b [1, 1]
noncomputable def K3 (k : Nat) : C := outD h c1 (K1 k)
noncomputable def K4 (k : Nat) : C := seqC E h k c1 (K1 k)
noncomputable def c2 : Code := subC b [1, 0, 1]
noncomputable def K5 (k : Nat) : C := outD h c2 (K4 k)
noncomputable def K6 (k : Nat) : C := seqC E h k c2 (K4 k)
noncomputable def c3 : Code := subC b [1, 0, 1, 0, 1]
noncomputable def K7 (k : Nat) : C := outD h c3 (K5 k)
noncomputable def K8 (k : Nat) : C := seqC E h k c3 (K5 k)
noncomputable def c4 : Code := subC b [1, 1, 1]
noncomputable def K9 (k : Nat) : C := outD h c4 (K3 k)
noncomputable def K10 (k : Nat) : C := seqC E h k c4 (K3 k)
abbrev T0 := (List ((Int) × (Int))) → R
noncomputable def u0 (k : Nat) : T0 := fun (x0 : List ((Int) × (Int))) => runOf (S := cx) E h k Try.f114 [.val (.slice 33 (.agg (.pair (.int .i64) (.int .i64))))] (.slice 33 (.agg (.pair (.int .i64) (.int .i64)))) (.own .ro) (x0, ())
def t0 : T0 := fun (x0 : List ((Int) × (Int))) => 
  (nilR (List.isEmpty x0) (some (([] : List ((Int) × (Int))), ())) (mustR (room ([] : List ((Int) × (Int))) x0) (some ((([] : List ((Int) × (Int))) ++ x0), ()))))
theorem e0 (k : Nat) : u0 k = t0 := by kernel_rfl
def p0 (k : Nat) : T0 := t0
theorem o0 (k : Nat) : u0 k = p0 k := (Eq.trans (b := t0) (e0 k) (by kernel_rfl))
end slices_Clonexx
def s_slices_Clonexx (a : (List ((Int) × (Int))) × (Unit)) : Option ((List ((Int) × (Int))) × (Unit)) := slices_Clonexx.p0 (fuel) a.1
noncomputable def F_slices_Clonexx : FSpec cx.toNm := { ps := [.val (.slice 33 (.agg (.pair (.int .i64) (.int .i64))))], nres := 1, rt := (.slice 33 (.agg (.pair (.int .i64) (.int .i64)))), rm := (.own .ro), f := s_slices_Clonexx }
theorem w_slices_Clonexx (a : (List ((Int) × (Int))) × (Unit)) : runOf (S := cx) slices_Clonexx.E slices_Clonexx.h (fuel) Try.f114 F_slices_Clonexx.ps F_slices_Clonexx.rt F_slices_Clonexx.rm a = F_slices_Clonexx.f a := Eq.trans (b := slices_Clonexx.u0 (fuel) a.1) (by kernel_rfl) (Eq.trans (b := slices_Clonexx.p0 (fuel) a.1) (congrFun (slices_Clonexx.o0 (fuel)) a.1) (by kernel_rfl))
theorem ok_slices_Clonexx : FnOk Try.prog F_slices_Clonexx 114 := fn_of (hn := slices_Clonexx.h) (E := slices_Clonexx.E) cxOk (tysT _) fs_nil follows Try.func114 (by kernel_rfl) (fun a r h => ⟨fuel, Eq.trans (w_slices_Clonexx a) h⟩)
namespace marks_of
noncomputable def E : Env cx := { tys := tys, fs := fsOf [(112, F_slices_Clone), (113, F_slices_Clonex), (114, F_slices_Clonexx)] }
abbrev R := Option (((Int) × ((List (List UInt8)) × ((List (Int)) × (List ((Int) × (Int)))))) × (Unit))
abbrev C := Exit → ST cx → R
noncomputable def b : Code := bodyC Try.f75
noncomputable def h : Hint := { vs := [0, 1, 2], nil := [], cuts := [], ret := ([2], [1, 16]), ords := [(1, [0, 1, 2, 3, 5, 6, 8, 9, 4, 7, 10, 11, 12, 13, 14])] }
noncomputable def K0 : C := fin (S := cx) E Try.f75.results.toList (.box (.agg (.agg (.pair (.int .i64) (.pair (.slice 9 .str) (.pair (.slice 3 (.int .i64)) (.slice 33 (.agg (.pair (.int .i64) (.int .i64)))))))))) (.own (.pr .ro (.pr (.own .ro) (.pr (.own .ro) (.own .ro))))) [] []
noncomputable def c0 : Code := subC b [1]
noncomputable def K1 (k : Nat) : C := outD h c0 K0
noncomputable def K2 (k : Nat) : C := seqC E h k c0 K0
noncomputable def c1 : Code := subC b [1, 1]
noncomputable def K3 (k : Nat) : C := outD h c1 (K1 k)
noncomputable def K4 (k : Nat) : C := seqC E h k c1 (K1 k)
abbrev T0 := ((Int) × ((List (List UInt8)) × ((List (Int)) × (List ((Int) × (Int)))))) → R
noncomputable def u0 (k : Nat) : T0 := fun (x0 : (Int) × ((List (List UInt8)) × ((List (Int)) × (List ((Int) × (Int)))))) => runOf (S := cx) E h k Try.f75 [.val (.agg (.pair (.int .i64) (.pair (.slice 9 .str) (.pair (.slice 3 (.int .i64)) (.slice 33 (.agg (.pair (.int .i64) (.int .i64))))))))] (.box (.agg (.agg (.pair (.int .i64) (.pair (.slice 9 .str) (.pair (.slice 3 (.int .i64)) (.slice 33 (.agg (.pair (.int .i64) (.int .i64)))))))))) (.own (.pr .ro (.pr (.own .ro) (.pr (.own .ro) (.own .ro))))) (x0, ())
def t0 : T0 := fun (x0 : (Int) × ((List (List UInt8)) × ((List (Int)) × (List ((Int) × (Int)))))) => 
  (bindR (s_slices_Clone (x0.2.1, ())) fun r1 => (bindR (s_slices_Clonex (x0.2.2.1, ())) fun r2 => (bindR (s_slices_Clonexx (x0.2.2.2, ())) fun r3 => (some ((x0.1, (r1.1, (r2.1, r3.1))), ())))))
theorem e0 (k : Nat) : u0 k = t0 := by kernel_rfl
def p0 (k : Nat) : T0 := t0
theorem o0 (k : Nat) : u0 k = p0 k := (Eq.trans (b := t0) (e0 k) (by kernel_rfl))
end marks_of
def s_marks_of (a : ((Int) × ((List (List UInt8)) × ((List (Int)) × (List ((Int) × (Int)))))) × (Unit)) : Option (((Int) × ((List (List UInt8)) × ((List (Int)) × (List ((Int) × (Int)))))) × (Unit)) := marks_of.p0 (fuel) a.1
noncomputable def F_marks_of : FSpec cx.toNm := { ps := [.val (.agg (.pair (.int .i64) (.pair (.slice 9 .str) (.pair (.slice 3 (.int .i64)) (.slice 33 (.agg (.pair (.int .i64) (.int .i64))))))))], nres := 1, rt := (.box (.agg (.agg (.pair (.int .i64) (.pair (.slice 9 .str) (.pair (.slice 3 (.int .i64)) (.slice 33 (.agg (.pair (.int .i64) (.int .i64)))))))))), rm := (.own (.pr .ro (.pr (.own .ro) (.pr (.own .ro) (.own .ro))))), f := s_marks_of }
theorem w_marks_of (a : ((Int) × ((List (List UInt8)) × ((List (Int)) × (List ((Int) × (Int)))))) × (Unit)) : runOf (S := cx) marks_of.E marks_of.h (fuel) Try.f75 F_marks_of.ps F_marks_of.rt F_marks_of.rm a = F_marks_of.f a := Eq.trans (b := marks_of.u0 (fuel) a.1) (by kernel_rfl) (Eq.trans (b := marks_of.p0 (fuel) a.1) (congrFun (marks_of.o0 (fuel)) a.1) (by kernel_rfl))
theorem ok_marks_of : FnOk Try.prog F_marks_of 75 := fn_of (hn := marks_of.h) (E := marks_of.E) cxOk (tysT _) (fs_cons ok_slices_Clone (fs_cons ok_slices_Clonex (fs_cons ok_slices_Clonexx fs_nil))) follows Try.func75 (by kernel_rfl) (fun a r h => ⟨fuel, Eq.trans (w_marks_of a) h⟩)
namespace marks_Move
noncomputable def E : Env cx := { tys := tys, fs := fsOf [(68, F_edit_Move), (75, F_marks_of)] }
abbrev R := Option (((Int) × ((List (List UInt8)) × ((List (Int)) × (List ((Int) × (Int)))))) × (Unit))
abbrev C := Exit → ST cx → R
noncomputable def b : Code := bodyC Try.f20
noncomputable def h : Hint := { vs := [0, 1, 2, 4, 5, 6, 7, 8, 9, 10, 28, 29, 30, 50, 51, 52], nil := [], cuts := [(4, ([1, 4, 5, 28, 29, 30], [4, 12]), ([1, 4, 5], [4, 12])), (8, ([1, 4, 5], [4, 12]), ([1, 4, 5], [4, 12])), (9, ([1, 4, 5, 50, 51, 52], [4, 12]), ([4, 5], [4, 12])), (14, ([4, 5], [4, 12]), ([4, 5], [4, 12]))], ret := ([4], [2, 4, 9, 12]), ords := [] }
noncomputable def K0 : C := fin (S := cx) E Try.f20.results.toList (.agg (.pair (.int .i64) (.pair (.slice 9 .str) (.pair (.slice 3 (.int .i64)) (.slice 33 (.agg (.pair (.int .i64) (.int .i64)))))))) .ro [] []
noncomputable def c0 : Code := subC b [1]
noncomputable def K1 (k : Nat) : C := outD h c0 K0
noncomputable def K2 (k : Nat) : C := seqC E h k c0 K0
noncomputable def c1 : Code := subC b [1, 1]
noncomputable def K3 (k : Nat) : C := outD h c1 (K1 k)
noncomputable def K4 (k : Nat) : C := seqC E h k c1 (K1 k)
noncomputable def c2 : Code := subC b [1, 1, 1]
noncomputable def K5 (k : Nat) : C := outD h c2 (K3 k)
noncomputable def K6 (k : Nat) : C := seqC E h k c2 (K3 k)
noncomputable def c3 : Code := subC b [1, 1, 1, 1]
noncomputable def K7 (k : Nat) : C := outD h c3 (K5 k)
noncomputable def K8 (k : Nat) : C := seqC E h k c3 (K5 k)
noncomputable def c4 : Code := subC b [1, 1, 1, 0, 1]
noncomputable def K9 (k : Nat) : C := outD h c4 (K8 k)
noncomputable def K10 (k : Nat) : C := seqC E h k c4 (K8 k)
noncomputable def K11 (k : Nat) : C := blockK 0 (K9 k)
noncomputable def c5 : Code := subC b [1, 1, 1, 0, 1, 0, 0]
noncomputable def K12 (k n1 : Nat) : C := loopD E h k c5 (K11 k) n1
noncomputable def c6 : Code := subC b [1, 1, 1, 0, 1, 0, 0, 1]
noncomputable def K13 (k n1 : Nat) : C := outD h c6 (K12 k n1)
noncomputable def K14 (k n1 : Nat) : C := seqC E h k c6 (K12 k n1)
noncomputable def c7 : Code := subC b [1, 1, 1, 0, 1, 0, 0, 1, 1]
noncomputable def K15 (k n1 : Nat) : C := outD h c7 (K13 k n1)
noncomputable def K16 (k n1 : Nat) : C := seqC E h k c7 (K13 k n1)
noncomputable def c8 : Code := subC b [1, 1, 1, 0, 1, 0, 0, 1, 1, 1]
noncomputable def K17 (k n1 : Nat) : C := outD h c8 (K15 k n1)
noncomputable def K18 (k n1 : Nat) : C := seqC E h k c8 (K15 k n1)
noncomputable def K19 (k n1 : Nat) : C := blockK 1 (K18 k n1)
noncomputable def c9 : Code := subC b [1, 1, 1, 0, 1, 0, 0, 1, 1, 0, 0, 1]
noncomputable def K20 (k n1 : Nat) : C := outD h c9 (K19 k n1)
noncomputable def K21 (k n1 : Nat) : C := seqC E h k c9 (K19 k n1)
noncomputable def c10 : Code := subC b [1, 1, 1, 1, 1]
noncomputable def K22 (k : Nat) : C := outD h c10 (K7 k)
noncomputable def K23 (k : Nat) : C := seqC E h k c10 (K7 k)
noncomputable def c11 : Code := subC b [1, 1, 1, 1, 0, 1]
noncomputable def K24 (k : Nat) : C := outD h c11 (K23 k)
noncomputable def K25 (k : Nat) : C := seqC E h k c11 (K23 k)
noncomputable def K26 (k : Nat) : C := blockK 2 (K24 k)
noncomputable def c12 : Code := subC b [1, 1, 1, 1, 0, 1, 0, 0]
noncomputable def K27 (k n3 : Nat) : C := loopD E h k c12 (K26 k) n3
noncomputable def c13 : Code := subC b [1, 1, 1, 1, 0, 1, 0, 0, 1]
noncomputable def K28 (k n3 : Nat) : C := outD h c13 (K27 k n3)
noncomputable def K29 (k n3 : Nat) : C := seqC E h k c13 (K27 k n3)
noncomputable def c14 : Code := subC b [1, 1, 1, 1, 0, 1, 0, 0, 1, 1]
noncomputable def K30 (k n3 : Nat) : C := outD h c14 (K28 k n3)
noncomputable def K31 (k n3 : Nat) : C := seqC E h k c14 (K28 k n3)
noncomputable def c15 : Code := subC b [1, 1, 1, 1, 0, 1, 0, 0, 1, 1, 1]
noncomputable def K32 (k n3 : Nat) : C := outD h c15 (K30 k n3)
noncomputable def K33 (k n3 : Nat) : C := seqC E h k c15 (K30 k n3)
noncomputable def K34 (k n3 : Nat) : C := blockK 3 (K33 k n3)
noncomputable def c16 : Code := subC b [1, 1, 1, 1, 0, 1, 0, 0, 1, 1, 0, 0, 1]
noncomputable def K35 (k n3 : Nat) : C := outD h c16 (K34 k n3)
noncomputable def K36 (k n3 : Nat) : C := seqC E h k c16 (K34 k n3)
noncomputable def c17 : Code := subC b [1, 1, 1, 1, 0, 1, 0, 0, 1, 1, 0, 0, 1, 1]
noncomputable def K37 (k n3 : Nat) : C := outD h c17 (K35 k n3)
noncomputable def K38 (k n3 : Nat) : C := seqC E h k c17 (K35 k n3)
noncomputable def c18 : Code := subC b [1, 1, 1, 1, 1, 1]
noncomputable def K39 (k : Nat) : C := outD h c18 (K22 k)
noncomputable def K40 (k : Nat) : C := seqC E h k c18 (K22 k)
abbrev T4 := ((Int) × ((List (List UInt8)) × ((List (Int)) × (List ((Int) × (Int)))))) → ((Int) × ((List (List UInt8)) × ((List (Int)) × (List ((Int) × (Int)))))) → R
abbrev T3 := (List ((Int) × ((Int) × (List UInt8)))) → Int → Int → ((Int) × ((List (List UInt8)) × ((List (Int)) × (List ((Int) × (Int)))))) → ((Int) × ((List (List UInt8)) × ((List (Int)) × (List ((Int) × (Int)))))) → R
abbrev T2 := (List ((Int) × ((Int) × (List UInt8)))) → ((Int) × ((List (List UInt8)) × ((List (Int)) × (List ((Int) × (Int)))))) → ((Int) × ((List (List UInt8)) × ((List (Int)) × (List ((Int) × (Int)))))) → R
abbrev T1 := (List ((Int) × ((Int) × (List UInt8)))) → Int → Int → ((Int) × ((List (List UInt8)) × ((List (Int)) × (List ((Int) × (Int)))))) → ((Int) × ((List (List UInt8)) × ((List (Int)) × (List ((Int) × (Int)))))) → R
abbrev T0 := ((Int) × ((List (List UInt8)) × ((List (Int)) × (List ((Int) × (Int)))))) → (List ((Int) × ((Int) × (List UInt8)))) → R
abbrev s4 : ((Int) × ((List (List UInt8)) × ((List (Int)) × (List ((Int) × (Int)))))) → ((Int) × ((List (List UInt8)) × ((List (Int)) × (List ((Int) × (Int)))))) → ST cx := fun (m4 m12 : (Int) × ((List (List UInt8)) × ((List (Int)) × (List ((Int) × (Int)))))) => ({ vars := [(4, .addr (.mem 4) []), (5, .addr (.mem 12) [])], scr := [], mems := [(4, ⟨(.agg (.pair (.int .i64) (.pair (.slice 9 .str) (.pair (.slice 3 (.int .i64)) (.slice 33 (.agg (.pair (.int .i64) (.int .i64)))))))), .ro, m4⟩), (12, ⟨(.agg (.agg (.pair (.int .i64) (.pair (.slice 9 .str) (.pair (.slice 3 (.int .i64)) (.slice 33 (.agg (.pair (.int .i64) (.int .i64))))))))), (.pr .ro (.pr (.own .ro) (.pr (.own .ro) (.own .ro)))), m12⟩)] } : ST cx)
noncomputable def u4 (k : Nat) : T4 := fun (m4 m12 : (Int) × ((List (List UInt8)) × ((List (Int)) × (List ((Int) × (Int)))))) => uK (run E h k c10) (s4 m4 m12) (K22 k)
noncomputable abbrev l4 (k : Nat) : T4 := fun (m4 m12 : (Int) × ((List (List UInt8)) × ((List (Int)) × (List ((Int) × (Int)))))) => cutK (run E h k c10) (s4 m4 m12) (K22 k)
abbrev s3 : (List ((Int) × ((Int) × (List UInt8)))) → Int → Int → ((Int) × ((List (List UInt8)) × ((List (Int)) × (List ((Int) × (Int)))))) → ((Int) × ((List (List UInt8)) × ((List (Int)) × (List ((Int) × (Int)))))) → ST cx := fun (x1 : List ((Int) × ((Int) × (List UInt8)))) (x51 x52 : Int) (m4 m12 : (Int) × ((List (List UInt8)) × ((List (Int)) × (List ((Int) × (Int)))))) => ({ vars := [(1, .v (.slice 41 (.agg (.pair (.int .i64) (.pair (.int .i64) .str)))) .ro x1), (4, .addr (.mem 4) []), (5, .addr (.mem 12) []), (50, .ref (.mem 12) [.inn, .inn, .snd, .snd, .snd]), (51, .v (.int .i64) .ro x51), (52, .v (.int .i64) .ro x52)], scr := [], mems := [(4, ⟨(.agg (.pair (.int .i64) (.pair (.slice 9 .str) (.pair (.slice 3 (.int .i64)) (.slice 33 (.agg (.pair (.int .i64) (.int .i64)))))))), .ro, m4⟩), (12, ⟨(.agg (.agg (.pair (.int .i64) (.pair (.slice 9 .str) (.pair (.slice 3 (.int .i64)) (.slice 33 (.agg (.pair (.int .i64) (.int .i64))))))))), (.pr .ro (.pr (.own .ro) (.pr (.own .ro) (.own .ro)))), m12⟩)] } : ST cx)
noncomputable def u3 (k n3 : Nat) : T3 := fun (x1 : List ((Int) × ((Int) × (List UInt8)))) (x51 x52 : Int) (m4 m12 : (Int) × ((List (List UInt8)) × ((List (Int)) × (List ((Int) × (Int)))))) => uK (loopL E h k c12 (K26 k) n3) (s3 x1 x51 x52 m4 m12) ()
noncomputable abbrev l3 (k n3 : Nat) : T3 := fun (x1 : List ((Int) × ((Int) × (List UInt8)))) (x51 x52 : Int) (m4 m12 : (Int) × ((List (List UInt8)) × ((List (Int)) × (List ((Int) × (Int)))))) => cutK (loopL E h k c12 (K26 k) n3) (s3 x1 x51 x52 m4 m12) ()
abbrev s2 : (List ((Int) × ((Int) × (List UInt8)))) → ((Int) × ((List (List UInt8)) × ((List (Int)) × (List ((Int) × (Int)))))) → ((Int) × ((List (List UInt8)) × ((List (Int)) × (List ((Int) × (Int)))))) → ST cx := fun (x1 : List ((Int) × ((Int) × (List UInt8)))) (m4 m12 : (Int) × ((List (List UInt8)) × ((List (Int)) × (List ((Int) × (Int)))))) => ({ vars := [(1, .v (.slice 41 (.agg (.pair (.int .i64) (.pair (.int .i64) .str)))) .ro x1), (4, .addr (.mem 4) []), (5, .addr (.mem 12) [])], scr := [], mems := [(4, ⟨(.agg (.pair (.int .i64) (.pair (.slice 9 .str) (.pair (.slice 3 (.int .i64)) (.slice 33 (.agg (.pair (.int .i64) (.int .i64)))))))), .ro, m4⟩), (12, ⟨(.agg (.agg (.pair (.int .i64) (.pair (.slice 9 .str) (.pair (.slice 3 (.int .i64)) (.slice 33 (.agg (.pair (.int .i64) (.int .i64))))))))), (.pr .ro (.pr (.own .ro) (.pr (.own .ro) (.own .ro)))), m12⟩)] } : ST cx)
noncomputable def u2 (k : Nat) : T2 := fun (x1 : List ((Int) × ((Int) × (List UInt8)))) (m4 m12 : (Int) × ((List (List UInt8)) × ((List (Int)) × (List ((Int) × (Int)))))) => uK (run E h k c3) (s2 x1 m4 m12) (K7 k)
noncomputable abbrev l2 (k : Nat) : T2 := fun (x1 : List ((Int) × ((Int) × (List UInt8)))) (m4 m12 : (Int) × ((List (List UInt8)) × ((List (Int)) × (List ((Int) × (Int)))))) => cutK (run E h k c3) (s2 x1 m4 m12) (K7 k)
abbrev s1 : (List ((Int) × ((Int) × (List UInt8)))) → Int → Int → ((Int) × ((List (List UInt8)) × ((List (Int)) × (List ((Int) × (Int)))))) → ((Int) × ((List (List UInt8)) × ((List (Int)) × (List ((Int) × (Int)))))) → ST cx := fun (x1 : List ((Int) × ((Int) × (List UInt8)))) (x29 x30 : Int) (m4 m12 : (Int) × ((List (List UInt8)) × ((List (Int)) × (List ((Int) × (Int)))))) => ({ vars := [(1, .v (.slice 41 (.agg (.pair (.int .i64) (.pair (.int .i64) .str)))) .ro x1), (4, .addr (.mem 4) []), (5, .addr (.mem 12) []), (28, .ref (.mem 12) [.inn, .inn, .snd, .snd, .fst]), (29, .v (.int .i64) .ro x29), (30, .v (.int .i64) .ro x30)], scr := [], mems := [(4, ⟨(.agg (.pair (.int .i64) (.pair (.slice 9 .str) (.pair (.slice 3 (.int .i64)) (.slice 33 (.agg (.pair (.int .i64) (.int .i64)))))))), .ro, m4⟩), (12, ⟨(.agg (.agg (.pair (.int .i64) (.pair (.slice 9 .str) (.pair (.slice 3 (.int .i64)) (.slice 33 (.agg (.pair (.int .i64) (.int .i64))))))))), (.pr .ro (.pr (.own .ro) (.pr (.own .ro) (.own .ro)))), m12⟩)] } : ST cx)
noncomputable def u1 (k n1 : Nat) : T1 := fun (x1 : List ((Int) × ((Int) × (List UInt8)))) (x29 x30 : Int) (m4 m12 : (Int) × ((List (List UInt8)) × ((List (Int)) × (List ((Int) × (Int)))))) => uK (loopL E h k c5 (K11 k) n1) (s1 x1 x29 x30 m4 m12) ()
noncomputable abbrev l1 (k n1 : Nat) : T1 := fun (x1 : List ((Int) × ((Int) × (List UInt8)))) (x29 x30 : Int) (m4 m12 : (Int) × ((List (List UInt8)) × ((List (Int)) × (List ((Int) × (Int)))))) => cutK (loopL E h k c5 (K11 k) n1) (s1 x1 x29 x30 m4 m12) ()
noncomputable def u0 (k : Nat) : T0 := fun (x0 : (Int) × ((List (List UInt8)) × ((List (Int)) × (List ((Int) × (Int)))))) (x1 : List ((Int) × ((Int) × (List UInt8)))) => runOf (S := cx) E h k Try.f20 [.val (.agg (.pair (.int .i64) (.pair (.slice 9 .str) (.pair (.slice 3 (.int .i64)) (.slice 33 (.agg (.pair (.int .i64) (.int .i64)))))))), .val (.slice 41 (.agg (.pair (.int .i64) (.pair (.int .i64) .str))))] (.agg (.pair (.int .i64) (.pair (.slice 9 .str) (.pair (.slice 3 (.int .i64)) (.slice 33 (.agg (.pair (.int .i64) (.int .i64)))))))) .ro (x0, x1, ())
def t4 : T4 := fun (m4 m12 : (Int) × ((List (List UInt8)) × ((List (Int)) × (List ((Int) × (Int)))))) => 
  (some (m12, ()))
theorem e4 (k : Nat) : u4 k = t4 := by kernel_rfl
theorem g4 (k : Nat) : l4 k = u4 k := funext fun _ => funext fun _ => cut_u _ _ _
def p4 (k : Nat) : T4 := t4
theorem o4 (k : Nat) : l4 k = p4 k := (Eq.trans (b := u4 k) (g4 k) (Eq.trans (b := t4) (e4 k) (by kernel_rfl)))
def t3 (f3 : T3) (f4 : T4) : T3 := fun (x1 : List ((Int) × ((Int) × (List UInt8)))) (x51 x52 : Int) (m4 m12 : (Int) × ((List (List UInt8)) × ((List (Int)) × (List ((Int) × (Int)))))) => 
  (iteB (decide (x52 < x51)) (withinR x52 (List.length m12.2.2.2) fun q6 => (bindR (s_edit_Move (x1, ((List.getD m12.2.2.2 q6 ((0 : Int), (0 : Int))).1, (true, ())))) fun r7 => (bindR (s_edit_Move (x1, ((List.getD m12.2.2.2 q6 ((0 : Int), (0 : Int))).2, (false, ())))) fun r8 => (withinR x52 (List.length m12.2.2.2) fun q9 => (f3 x1 x51 (w64 (x52 + (1 : Int))) m4 (m12.1, (m12.2.1, (m12.2.2.1, (List.set m12.2.2.2 q9 (r7.1, (maxI r7.1 r8.1))))))))))) (f4 m4 m12))
theorem e3 (k n3 : Nat) : u3 k (n3 + 1) = t3 (l3 k n3) (l4 k) := by kernel_rfl
theorem g3 (k n3 : Nat) : l3 k (n3 + 1) = u3 k (n3 + 1) := funext fun _ => funext fun _ => funext fun _ => funext fun _ => funext fun _ => cut_u _ _ _
theorem d3 {x3 y3 : T3} {x4 y4 : T4} (h3 : x3 = y3) (h4 : x4 = y4) : t3 x3 x4 = t3 y3 y4 := by subst h3; subst h4; rfl
def p3 (k : Nat) : Nat → T3
  | 0 => fun _ _ _ _ _ => none
  | n3 + 1 => t3 (p3 k n3) (p4 k)
theorem o3 (k : Nat) : ∀ n3, l3 k n3 = p3 k n3 := by
  intro n3
  induction n3 with
  | zero => kernel_rfl
  | succ n3 ih => exact (Eq.trans (b := u3 k (n3 + 1)) (g3 k n3) (Eq.trans (b := t3 (l3 k n3) (l4 k)) (e3 k n3) (Eq.trans (b := t3 (p3 k n3) (p4 k)) (d3 ih (o4 k)) (by kernel_rfl))))
def t2 (f3 : T3) : T2 := fun (x1 : List ((Int) × ((Int) × (List UInt8)))) (m4 m12 : (Int) × ((List (List UInt8)) × ((List (Int)) × (List ((Int) × (Int)))))) => 
  (f3 x1 ((List.length m12.2.2.2 : Nat) : Int) (0 : Int) m4 m12)
theorem e2 (k : Nat) : u2 k = t2 (l3 k k) := by kernel_rfl
theorem g2 (k : Nat) : l2 k = u2 k := funext fun _ => funext fun _ => funext fun _ => cut_u _ _ _
theorem d2 {x3 y3 : T3} (h3 : x3 = y3) : t2 x3 = t2 y3 := by subst h3; rfl
def p2 (k : Nat) : T2 := t2 (p3 k k)
theorem o2 (k : Nat) : l2 k = p2 k := (Eq.trans (b := u2 k) (g2 k) (Eq.trans (b := t2 (l3 k k)) (e2 k) (Eq.trans (b := t2 (p3 k k)) (d2 (o3 k k)) (by kernel_rfl))))
def t1 (f1 : T1) (f2 : T2) : T1 := fun (x1 : List ((Int) × ((Int) × (List UInt8)))) (x29 x30 : Int) (m4 m12 : (Int) × ((List (List UInt8)) × ((List (Int)) × (List ((Int) × (Int)))))) => 
  (iteB (decide (x30 < x29)) (withinR x30 (List.length m12.2.2.1) fun q3 => (bindR (s_edit_Move (x1, ((List.getD m12.2.2.1 q3 (0 : Int)), (false, ())))) fun r4 => (withinR x30 (List.length m12.2.2.1) fun q5 => (f1 x1 x29 (w64 (x30 + (1 : Int))) m4 (m12.1, (m12.2.1, ((List.set m12.2.2.1 q5 r4.1), m12.2.2.2))))))) (f2 x1 m4 m12))
theorem e1 (k n1 : Nat) : u1 k (n1 + 1) = t1 (l1 k n1) (l2 k) := by kernel_rfl
theorem g1 (k n1 : Nat) : l1 k (n1 + 1) = u1 k (n1 + 1) := funext fun _ => funext fun _ => funext fun _ => funext fun _ => funext fun _ => cut_u _ _ _
theorem d1 {x1 y1 : T1} {x2 y2 : T2} (h1 : x1 = y1) (h2 : x2 = y2) : t1 x1 x2 = t1 y1 y2 := by subst h1; subst h2; rfl
def p1 (k : Nat) : Nat → T1
  | 0 => fun _ _ _ _ _ => none
  | n1 + 1 => t1 (p1 k n1) (p2 k)
theorem o1 (k : Nat) : ∀ n1, l1 k n1 = p1 k n1 := by
  intro n1
  induction n1 with
  | zero => kernel_rfl
  | succ n1 ih => exact (Eq.trans (b := u1 k (n1 + 1)) (g1 k n1) (Eq.trans (b := t1 (l1 k n1) (l2 k)) (e1 k n1) (Eq.trans (b := t1 (p1 k n1) (p2 k)) (d1 ih (o2 k)) (by kernel_rfl))))
def t0 (f1 : T1) : T0 := fun (x0 : (Int) × ((List (List UInt8)) × ((List (Int)) × (List ((Int) × (Int)))))) (x1 : List ((Int) × ((Int) × (List UInt8)))) => 
  (bindR (s_marks_of (x0, ())) fun r1 => (bindR (s_edit_Move (x1, (r1.1.1, (true, ())))) fun r2 => (f1 x1 ((List.length r1.1.2.2.1 : Nat) : Int) (0 : Int) ((0 : Int), (([] : List (List UInt8)), (([] : List (Int)), ([] : List ((Int) × (Int)))))) (r2.1, r1.1.2))))
theorem e0 (k : Nat) : u0 k = t0 (l1 k k) := by kernel_rfl
theorem d0 {x1 y1 : T1} (h1 : x1 = y1) : t0 x1 = t0 y1 := by subst h1; rfl
def p0 (k : Nat) : T0 := t0 (p1 k k)
theorem o0 (k : Nat) : u0 k = p0 k := (Eq.trans (b := t0 (l1 k k)) (e0 k) (Eq.trans (b := t0 (p1 k k)) (d0 (o1 k k)) (by kernel_rfl)))
end marks_Move
def s_marks_Move (a : ((Int) × ((List (List UInt8)) × ((List (Int)) × (List ((Int) × (Int)))))) × ((List ((Int) × ((Int) × (List UInt8)))) × (Unit))) : Option (((Int) × ((List (List UInt8)) × ((List (Int)) × (List ((Int) × (Int)))))) × (Unit)) := marks_Move.p0 (fuel) a.1 a.2.1
noncomputable def F_marks_Move : FSpec cx.toNm := { ps := [.val (.agg (.pair (.int .i64) (.pair (.slice 9 .str) (.pair (.slice 3 (.int .i64)) (.slice 33 (.agg (.pair (.int .i64) (.int .i64)))))))), .val (.slice 41 (.agg (.pair (.int .i64) (.pair (.int .i64) .str))))], nres := 1, rt := (.agg (.pair (.int .i64) (.pair (.slice 9 .str) (.pair (.slice 3 (.int .i64)) (.slice 33 (.agg (.pair (.int .i64) (.int .i64)))))))), rm := .ro, f := s_marks_Move }
theorem w_marks_Move (a : ((Int) × ((List (List UInt8)) × ((List (Int)) × (List ((Int) × (Int)))))) × ((List ((Int) × ((Int) × (List UInt8)))) × (Unit))) : runOf (S := cx) marks_Move.E marks_Move.h (fuel) Try.f20 F_marks_Move.ps F_marks_Move.rt F_marks_Move.rm a = F_marks_Move.f a := Eq.trans (b := marks_Move.u0 (fuel) a.1 a.2.1) (by kernel_rfl) (Eq.trans (b := marks_Move.p0 (fuel) a.1 a.2.1) (congrFun (congrFun (marks_Move.o0 (fuel)) a.1) a.2.1) (by kernel_rfl))
theorem ok_marks_Move : FnOk Try.prog F_marks_Move 20 := fn_of (hn := marks_Move.h) (E := marks_Move.E) cxOk (tysT _) (fs_cons ok_edit_Move (fs_cons ok_marks_of fs_nil)) follows Try.func20 (by kernel_rfl) (fun a r h => ⟨fuel, Eq.trans (w_marks_Move a) h⟩)
namespace marks_isName
noncomputable def E : Env cx := { tys := tys, fs := fsOf [] }
abbrev R := Option ((Bool) × (Unit))
abbrev C := Exit → ST cx → R
noncomputable def b : Code := bodyC Try.f76
noncomputable def h : Hint := { vs := [0, 2], nil := [], cuts := [], ret := ([2], []), ords := [] }
noncomputable def K0 : C := fin (S := cx) E Try.f76.results.toList .bool .ro [] []
noncomputable def c0 : Code := subC b [1]
noncomputable def K1 (k : Nat) : C := outD h c0 K0
noncomputable def K2 (k : Nat) : C := seqC E h k c0 K0
noncomputable def c1 : Code := subC b [1, 1]
noncomputable def K3 (k : Nat) : C := outD h c1 (K1 k)
noncomputable def K4 (k : Nat) : C := seqC E h k c1 (K1 k)
abbrev T0 := (List UInt8) → R
noncomputable def u0 (k : Nat) : T0 := fun (x0 : List UInt8) => runOf (S := cx) E h k Try.f76 [.val .str] .bool .ro (x0, ())
def t0 : T0 := fun (x0 : List UInt8) => 
  (iteB (!(decide (x0 = ([] : List UInt8)))) (some ((decide (((List.length x0 : Nat) : Int) ≤ (16 : Int))), ())) (some (false, ())))
theorem e0 (k : Nat) : u0 k = t0 := by kernel_rfl
def p0 (k : Nat) : T0 := t0
theorem o0 (k : Nat) : u0 k = p0 k := (Eq.trans (b := t0) (e0 k) (by kernel_rfl))
end marks_isName
def s_marks_isName (a : (List UInt8) × (Unit)) : Option ((Bool) × (Unit)) := marks_isName.p0 (fuel) a.1
noncomputable def F_marks_isName : FSpec cx.toNm := { ps := [.val .str], nres := 1, rt := .bool, rm := .ro, f := s_marks_isName }
theorem w_marks_isName (a : (List UInt8) × (Unit)) : runOf (S := cx) marks_isName.E marks_isName.h (fuel) Try.f76 F_marks_isName.ps F_marks_isName.rt F_marks_isName.rm a = F_marks_isName.f a := Eq.trans (b := marks_isName.u0 (fuel) a.1) (by kernel_rfl) (Eq.trans (b := marks_isName.p0 (fuel) a.1) (congrFun (marks_isName.o0 (fuel)) a.1) (by kernel_rfl))
theorem ok_marks_isName : FnOk Try.prog F_marks_isName 76 := fn_of (hn := marks_isName.h) (E := marks_isName.E) cxOk (tysT _) fs_nil follows Try.func76 (by kernel_rfl) (fun a r h => ⟨fuel, Eq.trans (w_marks_isName a) h⟩)
namespace cmp_isNaN
noncomputable def E : Env cx := { tys := tys, fs := fsOf [] }
abbrev R := Option ((Bool) × (Unit))
abbrev C := Exit → ST cx → R
noncomputable def b : Code := bodyC Try.f130
noncomputable def h : Hint := { vs := [0, 2], nil := [], cuts := [], ret := ([2], []), ords := [] }
noncomputable def K0 : C := fin (S := cx) E Try.f130.results.toList .bool .ro [] []
noncomputable def c0 : Code := subC b [1]
noncomputable def K1 (k : Nat) : C := outD h c0 K0
noncomputable def K2 (k : Nat) : C := seqC E h k c0 K0
noncomputable def c1 : Code := subC b [1, 1]
noncomputable def K3 (k : Nat) : C := outD h c1 (K1 k)
noncomputable def K4 (k : Nat) : C := seqC E h k c1 (K1 k)
abbrev T0 := (List UInt8) → R
noncomputable def u0 (k : Nat) : T0 := fun (x0 : List UInt8) => runOf (S := cx) E h k Try.f130 [.val .str] .bool .ro (x0, ())
def t0 : T0 := fun (x0 : List UInt8) => 
  (some ((!(decide (x0 = x0))), ()))
theorem e0 (k : Nat) : u0 k = t0 := by kernel_rfl
def p0 (k : Nat) : T0 := t0
theorem o0 (k : Nat) : u0 k = p0 k := (Eq.trans (b := t0) (e0 k) (by kernel_rfl))
end cmp_isNaN
def s_cmp_isNaN (a : (List UInt8) × (Unit)) : Option ((Bool) × (Unit)) := cmp_isNaN.p0 (fuel) a.1
noncomputable def F_cmp_isNaN : FSpec cx.toNm := { ps := [.val .str], nres := 1, rt := .bool, rm := .ro, f := s_cmp_isNaN }
theorem w_cmp_isNaN (a : (List UInt8) × (Unit)) : runOf (S := cx) cmp_isNaN.E cmp_isNaN.h (fuel) Try.f130 F_cmp_isNaN.ps F_cmp_isNaN.rt F_cmp_isNaN.rm a = F_cmp_isNaN.f a := Eq.trans (b := cmp_isNaN.u0 (fuel) a.1) (by kernel_rfl) (Eq.trans (b := cmp_isNaN.p0 (fuel) a.1) (congrFun (cmp_isNaN.o0 (fuel)) a.1) (by kernel_rfl))
theorem ok_cmp_isNaN : FnOk Try.prog F_cmp_isNaN 130 := fn_of (hn := cmp_isNaN.h) (E := cmp_isNaN.E) cxOk (tysT _) fs_nil follows Try.func130 (by kernel_rfl) (fun a r h => ⟨fuel, Eq.trans (w_cmp_isNaN a) h⟩)
namespace cmp_Less
noncomputable def E : Env cx := { tys := tys, fs := fsOf [(130, F_cmp_isNaN)] }
abbrev R := Option ((Bool) × (Unit))
abbrev C := Exit → ST cx → R
noncomputable def b : Code := bodyC Try.f116
noncomputable def h : Hint := { vs := [0, 1, 4], nil := [], cuts := [], ret := ([4], []), ords := [] }
noncomputable def K0 : C := fin (S := cx) E Try.f116.results.toList .bool .ro [] []
noncomputable def c0 : Code := subC b [1]
noncomputable def K1 (k : Nat) : C := outD h c0 K0
noncomputable def K2 (k : Nat) : C := seqC E h k c0 K0
noncomputable def c1 : Code := subC b [1, 1]
noncomputable def K3 (k : Nat) : C := outD h c1 (K1 k)
noncomputable def K4 (k : Nat) : C := seqC E h k c1 (K1 k)
abbrev T0 := (List UInt8) → (List UInt8) → R
noncomputable def u0 (k : Nat) : T0 := fun (x0 x1 : List UInt8) => runOf (S := cx) E h k Try.f116 [.val .str, .val .str] .bool .ro (x0, x1, ())
def t0 : T0 := fun (x0 x1 : List UInt8) => 
  (bindR (s_cmp_isNaN (x0, ())) fun r1 => (iteB r1.1 (bindR (s_cmp_isNaN (x1, ())) fun r2 => (iteB (notB r2.1) (some (true, ())) (some ((Op.bytesLess x0 x1), ())))) (some ((Op.bytesLess x0 x1), ()))))
theorem e0 (k : Nat) : u0 k = t0 := by kernel_rfl
def p0 (k : Nat) : T0 := t0
theorem o0 (k : Nat) : u0 k = p0 k := (Eq.trans (b := t0) (e0 k) (by kernel_rfl))
end cmp_Less
def s_cmp_Less (a : (List UInt8) × ((List UInt8) × (Unit))) : Option ((Bool) × (Unit)) := cmp_Less.p0 (fuel) a.1 a.2.1
noncomputable def F_cmp_Less : FSpec cx.toNm := { ps := [.val .str, .val .str], nres := 1, rt := .bool, rm := .ro, f := s_cmp_Less }
theorem w_cmp_Less (a : (List UInt8) × ((List UInt8) × (Unit))) : runOf (S := cx) cmp_Less.E cmp_Less.h (fuel) Try.f116 F_cmp_Less.ps F_cmp_Less.rt F_cmp_Less.rm a = F_cmp_Less.f a := Eq.trans (b := cmp_Less.u0 (fuel) a.1 a.2.1) (by kernel_rfl) (Eq.trans (b := cmp_Less.p0 (fuel) a.1 a.2.1) (congrFun (congrFun (cmp_Less.o0 (fuel)) a.1) a.2.1) (by kernel_rfl))
theorem ok_cmp_Less : FnOk Try.prog F_cmp_Less 116 := fn_of (hn := cmp_Less.h) (E := cmp_Less.E) cxOk (tysT _) (fs_cons ok_cmp_isNaN fs_nil) follows Try.func116 (by kernel_rfl) (fun a r h => ⟨fuel, Eq.trans (w_cmp_Less a) h⟩)
namespace slices_isNaN
noncomputable def E : Env cx := { tys := tys, fs := fsOf [] }
abbrev R := Option ((Bool) × (Unit))
abbrev C := Exit → ST cx → R
noncomputable def b : Code := bodyC Try.f117
noncomputable def h : Hint := { vs := [0, 2], nil := [], cuts := [], ret := ([2], []), ords := [] }
noncomputable def K0 : C := fin (S := cx) E Try.f117.results.toList .bool .ro [] []
noncomputable def c0 : Code := subC b [1]
noncomputable def K1 (k : Nat) : C := outD h c0 K0
noncomputable def K2 (k : Nat) : C := seqC E h k c0 K0
noncomputable def c1 : Code := subC b [1, 1]
noncomputable def K3 (k : Nat) : C := outD h c1 (K1 k)
noncomputable def K4 (k : Nat) : C := seqC E h k c1 (K1 k)
abbrev T0 := (List UInt8) → R
noncomputable def u0 (k : Nat) : T0 := fun (x0 : List UInt8) => runOf (S := cx) E h k Try.f117 [.val .str] .bool .ro (x0, ())
def t0 : T0 := fun (x0 : List UInt8) => 
  (some ((!(decide (x0 = x0))), ()))
theorem e0 (k : Nat) : u0 k = t0 := by kernel_rfl
def p0 (k : Nat) : T0 := t0
theorem o0 (k : Nat) : u0 k = p0 k := (Eq.trans (b := t0) (e0 k) (by kernel_rfl))
end slices_isNaN
def s_slices_isNaN (a : (List UInt8) × (Unit)) : Option ((Bool) × (Unit)) := slices_isNaN.p0 (fuel) a.1
noncomputable def F_slices_isNaN : FSpec cx.toNm := { ps := [.val .str], nres := 1, rt := .bool, rm := .ro, f := s_slices_isNaN }
theorem w_slices_isNaN (a : (List UInt8) × (Unit)) : runOf (S := cx) slices_isNaN.E slices_isNaN.h (fuel) Try.f117 F_slices_isNaN.ps F_slices_isNaN.rt F_slices_isNaN.rm a = F_slices_isNaN.f a := Eq.trans (b := slices_isNaN.u0 (fuel) a.1) (by kernel_rfl) (Eq.trans (b := slices_isNaN.p0 (fuel) a.1) (congrFun (slices_isNaN.o0 (fuel)) a.1) (by kernel_rfl))
theorem ok_slices_isNaN : FnOk Try.prog F_slices_isNaN 117 := fn_of (hn := slices_isNaN.h) (E := slices_isNaN.E) cxOk (tysT _) fs_nil follows Try.func117 (by kernel_rfl) (fun a r h => ⟨fuel, Eq.trans (w_slices_isNaN a) h⟩)
namespace slices_BinarySearch
noncomputable def E : Env cx := { tys := tys, fs := fsOf [(116, F_cmp_Less), (117, F_slices_isNaN)] }
abbrev R := Option (((Int) × (Bool)) × (Unit))
abbrev C := Exit → ST cx → R
noncomputable def b : Code := bodyC Try.f80
noncomputable def h : Hint := { vs := [0, 1, 4, 5, 6, 7, 8, 9], nil := [], cuts := [(3, ([0, 1, 6, 7, 8], []), ([0, 1, 6, 7, 8], [])), (8, ([0, 1, 6, 7], []), ([0, 1, 6, 7], []))], ret := ([4, 5], []), ords := [] }
noncomputable def K0 : C := fin (S := cx) E Try.f80.results.toList (.pair (.int .i64) .bool) .ro [] []
noncomputable def c0 : Code := subC b [1]
noncomputable def K1 (k : Nat) : C := outD h c0 K0
noncomputable def K2 (k : Nat) : C := seqC E h k c0 K0
noncomputable def c1 : Code := subC b [1, 1]
noncomputable def K3 (k : Nat) : C := outD h c1 (K1 k)
noncomputable def K4 (k : Nat) : C := seqC E h k c1 (K1 k)
noncomputable def c2 : Code := subC b [1, 1, 1]
noncomputable def K5 (k : Nat) : C := outD h c2 (K3 k)
noncomputable def K6 (k : Nat) : C := seqC E h k c2 (K3 k)
noncomputable def c3 : Code := subC b [1, 1, 1, 1]
noncomputable def K7 (k : Nat) : C := outD h c3 (K5 k)
noncomputable def K8 (k : Nat) : C := seqC E h k c3 (K5 k)
noncomputable def K9 (k : Nat) : C := blockK 0 (K8 k)
noncomputable def c4 : Code := subC b [1, 1, 1, 0, 0, 0]
noncomputable def K10 (k n1 : Nat) : C := loopD E h k c4 (K9 k) n1
noncomputable def c5 : Code := subC b [1, 1, 1, 0, 0, 0, 1]
noncomputable def K11 (k n1 : Nat) : C := outD h c5 (K10 k n1)
noncomputable def K12 (k n1 : Nat) : C := seqC E h k c5 (K10 k n1)
noncomputable def c6 : Code := subC b [1, 1, 1, 0, 0, 0, 0, 1]
noncomputable def K13 (k n1 : Nat) : C := outD h c6 (K12 k n1)
noncomputable def K14 (k n1 : Nat) : C := seqC E h k c6 (K12 k n1)
noncomputable def K15 (k n1 : Nat) : C := blockK 1 (K11 k n1)
noncomputable def c7 : Code := subC b [1, 1, 1, 0, 0, 0, 1, 0, 1]
noncomputable def K16 (k n1 : Nat) : C := outD h c7 (K15 k n1)
noncomputable def K17 (k n1 : Nat) : C := seqC E h k c7 (K15 k n1)
noncomputable def c8 : Code := subC b [1, 1, 1, 0, 0, 0, 1, 0, 1, 1]
noncomputable def K18 (k n1 : Nat) : C := outD h c8 (K16 k n1)
noncomputable def K19 (k n1 : Nat) : C := seqC E h k c8 (K16 k n1)
noncomputable def c9 : Code := subC b [1, 1, 1, 1, 1]
noncomputable def K20 (k : Nat) : C := outD h c9 (K7 k)
noncomputable def K21 (k : Nat) : C := seqC E h k c9 (K7 k)
abbrev T2 := (List (List UInt8)) → (List UInt8) → Int → Int → R
abbrev T1 := (List (List UInt8)) → (List UInt8) → Int → Int → Int → R
abbrev T0 := (List (List UInt8)) → (List UInt8) → R
abbrev s2 : (List (List UInt8)) → (List UInt8) → Int → Int → ST cx := fun (x0 : List (List UInt8)) (x1 : List UInt8) (x6 x7 : Int) => ({ vars := [(0, .v (.slice 9 .str) .ro x0), (1, .v .str .ro x1), (6, .v (.int .i64) .ro x6), (7, .v (.int .i64) .ro x7)], scr := [], mems := [] } : ST cx)
noncomputable def u2 (k : Nat) : T2 := fun (x0 : List (List UInt8)) (x1 : List UInt8) (x6 x7 : Int) => uK (run E h k c3) (s2 x0 x1 x6 x7) (K7 k)
noncomputable abbrev l2 (k : Nat) : T2 := fun (x0 : List (List UInt8)) (x1 : List UInt8) (x6 x7 : Int) => cutK (run E h k c3) (s2 x0 x1 x6 x7) (K7 k)
abbrev s1 : (List (List UInt8)) → (List UInt8) → Int → Int → Int → ST cx := fun (x0 : List (List UInt8)) (x1 : List UInt8) (x6 x7 x8 : Int) => ({ vars := [(0, .v (.slice 9 .str) .ro x0), (1, .v .str .ro x1), (6, .v (.int .i64) .ro x6), (7, .v (.int .i64) .ro x7), (8, .v (.int .i64) .ro x8)], scr := [], mems := [] } : ST cx)
noncomputable def u1 (k n1 : Nat) : T1 := fun (x0 : List (List UInt8)) (x1 : List UInt8) (x6 x7 x8 : Int) => uK (loopL E h k c4 (K9 k) n1) (s1 x0 x1 x6 x7 x8) ()
noncomputable abbrev l1 (k n1 : Nat) : T1 := fun (x0 : List (List UInt8)) (x1 : List UInt8) (x6 x7 x8 : Int) => cutK (loopL E h k c4 (K9 k) n1) (s1 x0 x1 x6 x7 x8) ()
noncomputable def u0 (k : Nat) : T0 := fun (x0 : List (List UInt8)) (x1 : List UInt8) => runOf (S := cx) E h k Try.f80 [.val (.slice 9 .str), .val .str] (.pair (.int .i64) .bool) .ro (x0, x1, ())
def t2 : T2 := fun (x0 : List (List UInt8)) (x1 : List UInt8) (x6 x7 : Int) => 
  (iteB (decide (x7 < x6)) (withinR x7 (List.length x0) fun q3 => (iteB (decide ((List.getD x0 q3 ([] : List UInt8)) = x1)) (some ((x7, true), ())) (withinR x7 (List.length x0) fun q4 => (bindR (s_slices_isNaN ((List.getD x0 q4 ([] : List UInt8)), ())) fun r5 => (iteB r5.1 (bindR (s_slices_isNaN (x1, ())) fun r6 => (some ((x7, r6.1), ()))) (some ((x7, false), ()))))))) (some ((x7, false), ())))
theorem e2 (k : Nat) : u2 k = t2 := by kernel_rfl
theorem g2 (k : Nat) : l2 k = u2 k := funext fun _ => funext fun _ => funext fun _ => funext fun _ => cut_u _ _ _
def p2 (k : Nat) : T2 := t2
theorem o2 (k : Nat) : l2 k = p2 k := (Eq.trans (b := u2 k) (g2 k) (Eq.trans (b := t2) (e2 k) (by kernel_rfl)))
def t1 (f1 : T1) (f2 : T2) : T1 := fun (x0 : List (List UInt8)) (x1 : List UInt8) (x6 x7 x8 : Int) => 
  (iteB (decide (x7 < x8)) (withinR (w64 ((shrI .u64 (IntKind.wrap .u64 ((w64 (x7 + x8)))) (1 : Int)))) (List.length x0) fun q1 => (bindR (s_cmp_Less ((List.getD x0 q1 ([] : List UInt8)), (x1, ()))) fun r2 => (iteB r2.1 (f1 x0 x1 x6 (w64 ((w64 ((shrI .u64 (IntKind.wrap .u64 ((w64 (x7 + x8)))) (1 : Int)))) + (1 : Int))) x8) (f1 x0 x1 x6 x7 (w64 ((shrI .u64 (IntKind.wrap .u64 ((w64 (x7 + x8)))) (1 : Int)))))))) (f2 x0 x1 x6 x7))
theorem e1 (k n1 : Nat) : u1 k (n1 + 1) = t1 (l1 k n1) (l2 k) := by kernel_rfl
theorem g1 (k n1 : Nat) : l1 k (n1 + 1) = u1 k (n1 + 1) := funext fun _ => funext fun _ => funext fun _ => funext fun _ => funext fun _ => cut_u _ _ _
theorem d1 {x1 y1 : T1} {x2 y2 : T2} (h1 : x1 = y1) (h2 : x2 = y2) : t1 x1 x2 = t1 y1 y2 := by subst h1; subst h2; rfl
def p1 (k : Nat) : Nat → T1
  | 0 => fun _ _ _ _ _ => none
  | n1 + 1 => t1 (p1 k n1) (p2 k)
theorem o1 (k : Nat) : ∀ n1, l1 k n1 = p1 k n1 := by
  intro n1
  induction n1 with
  | zero => kernel_rfl
  | succ n1 ih => exact (Eq.trans (b := u1 k (n1 + 1)) (g1 k n1) (Eq.trans (b := t1 (l1 k n1) (l2 k)) (e1 k n1) (Eq.trans (b := t1 (p1 k n1) (p2 k)) (d1 ih (o2 k)) (by kernel_rfl))))
def t0 (f1 : T1) : T0 := fun (x0 : List (List UInt8)) (x1 : List UInt8) => 
  (f1 x0 x1 ((List.length x0 : Nat) : Int) (0 : Int) ((List.length x0 : Nat) : Int))
theorem e0 (k : Nat) : u0 k = t0 (l1 k k) := by kernel_rfl
theorem d0 {x1 y1 : T1} (h1 : x1 = y1) : t0 x1 = t0 y1 := by subst h1; rfl
def p0 (k : Nat) : T0 := t0 (p1 k k)
theorem o0 (k : Nat) : u0 k = p0 k := (Eq.trans (b := t0 (l1 k k)) (e0 k) (Eq.trans (b := t0 (p1 k k)) (d0 (o1 k k)) (by kernel_rfl)))
end slices_BinarySearch
def s_slices_BinarySearch (a : (List (List UInt8)) × ((List UInt8) × (Unit))) : Option (((Int) × (Bool)) × (Unit)) := slices_BinarySearch.p0 (fuel) a.1 a.2.1
noncomputable def F_slices_BinarySearch : FSpec cx.toNm := { ps := [.val (.slice 9 .str), .val .str], nres := 2, rt := (.pair (.int .i64) .bool), rm := .ro, f := s_slices_BinarySearch }
theorem w_slices_BinarySearch (a : (List (List UInt8)) × ((List UInt8) × (Unit))) : runOf (S := cx) slices_BinarySearch.E slices_BinarySearch.h (fuel) Try.f80 F_slices_BinarySearch.ps F_slices_BinarySearch.rt F_slices_BinarySearch.rm a = F_slices_BinarySearch.f a := Eq.trans (b := slices_BinarySearch.u0 (fuel) a.1 a.2.1) (by kernel_rfl) (Eq.trans (b := slices_BinarySearch.p0 (fuel) a.1 a.2.1) (congrFun (congrFun (slices_BinarySearch.o0 (fuel)) a.1) a.2.1) (by kernel_rfl))
theorem ok_slices_BinarySearch : FnOk Try.prog F_slices_BinarySearch 80 := fn_of (hn := slices_BinarySearch.h) (E := slices_BinarySearch.E) cxOk (tysT _) (fs_cons ok_cmp_Less (fs_cons ok_slices_isNaN fs_nil)) follows Try.func80 (by kernel_rfl) (fun a r h => ⟨fuel, Eq.trans (w_slices_BinarySearch a) h⟩)
namespace marks_Set
noncomputable def E : Env cx := { tys := tys, fs := fsOf [(75, F_marks_of), (76, F_marks_isName), (80, F_slices_BinarySearch), (81, F_InsertS), (82, F_InsertI)] }
abbrev R := Option ((((Int) × ((List (List UInt8)) × ((List (Int)) × (List ((Int) × (Int)))))) × (Int)) × (Unit))
abbrev C := Exit → ST cx → R
noncomputable def b : Code := bodyC Try.f28
noncomputable def h : Hint := { vs := [0, 1, 2, 3, 4, 8, 9, 10, 11, 12], nil := [], cuts := [(5, ([1, 2, 4, 8, 10, 11, 25], [4, 8]), ([1, 2, 4, 8, 10, 11], [4, 8])), (7, ([1, 2, 4, 8, 10, 11, 34], [4, 8]), ([1, 2, 4, 8, 10, 11], [4, 8])), (8, ([1, 2, 4, 8, 10, 11], [4, 8]), ([1, 2, 4, 8, 10, 11], [4, 8]))], ret := ([8, 9], [4, 8, 45]), ords := [], trees := [(12, (.step 0 (.step 1 (.step 2 (.step 3 (.step 4 (.step 5 (.step 6 (.step 7 (.step 8 (.step 11 (.step 12 (.step 13 (.step 14 (.step 16 (.step 17 (.both (.step 9 (.both (.step 10 (.step 15 (.step 18 (.step 19 (.step 20 (.step 21 (.step 22 (.step 23 (.step 24 (.step 25 (.step 26 (.step 27 .done)))))))))))) (.both (.step 15 (.both (.step 10 (.step 18 (.step 19 (.step 20 (.step 21 (.step 22 (.step 23 (.step 24 (.step 25 (.step 26 (.step 27 .done))))))))))) (.step 18 (.step 10 (.step 19 (.step 20 (.step 21 (.step 22 (.step 23 (.step 24 (.step 25 (.step 26 (.step 27 .done))))))))))))) (.step 18 (.both (.step 10 (.step 15 (.step 19 (.step 20 (.step 21 (.step 22 (.step 23 (.step 24 (.step 25 (.step 26 (.step 27 .done))))))))))) (.step 15 (.step 10 (.step 19 (.step 20 (.step 21 (.step 22 (.step 23 (.step 24 (.step 25 (.step 26 (.step 27 .done)))))))))))))))) (.both (.step 15 (.both (.step 9 (.both (.step 10 (.step 18 (.step 19 (.step 20 (.step 21 (.step 22 (.step 23 (.step 24 (.step 25 (.step 26 (.step 27 .done))))))))))) (.step 18 (.step 10 (.step 19 (.step 20 (.step 21 (.step 22 (.step 23 (.step 24 (.step 25 (.step 26 (.step 27 .done))))))))))))) (.step 18 (.step 9 (.step 10 (.step 19 (.step 20 (.step 21 (.step 22 (.step 23 (.step 24 (.step 25 (.step 26 (.step 27 .done)))))))))))))) (.step 18 (.both (.step 9 (.both (.step 10 (.step 15 (.step 19 (.step 20 (.step 21 (.step 22 (.step 23 (.step 24 (.step 25 (.step 26 (.step 27 .done))))))))))) (.step 15 (.step 10 (.step 19 (.step 20 (.step 21 (.step 22 (.step 23 (.step 24 (.step 25 (.step 26 (.step 27 .done))))))))))))) (.step 15 (.step 9 (.step 10 (.step 19 (.step 20 (.step 21 (.step 22 (.step 23 (.step 24 (.step 25 (.step 26 (.step 27 .done))))))))))))))))))))))))))))))))] }
noncomputable def K0 : C := fin (S := cx) E Try.f28.results.toList (.pair (.agg (.pair (.int .i64) (.pair (.slice 9 .str) (.pair (.slice 3 (.int .i64)) (.slice 33 (.agg (.pair (.int .i64) (.int .i64)))))))) (.int .i64)) .ro [] []
noncomputable def c0 : Code := subC b [1]
noncomputable def K1 (k : Nat) : C := outD h c0 K0
noncomputable def K2 (k : Nat) : C := seqC E h k c0 K0
noncomputable def c1 : Code := subC b [1, 1]
noncomputable def K3 (k : Nat) : C := outD h c1 (K1 k)
noncomputable def K4 (k : Nat) : C := seqC E h k c1 (K1 k)
noncomputable def c2 : Code := subC b [1, 1, 1]
noncomputable def K5 (k : Nat) : C := outD h c2 (K3 k)
noncomputable def K6 (k : Nat) : C := seqC E h k c2 (K3 k)
noncomputable def K7 (k : Nat) : C := blockK 0 (K6 k)
noncomputable def c3 : Code := subC b [1, 1, 0, 0, 1]
noncomputable def K8 (k : Nat) : C := outD h c3 (K7 k)
noncomputable def K9 (k : Nat) : C := seqC E h k c3 (K7 k)
noncomputable def c4 : Code := subC b [1, 1, 0, 0, 1, 0, 1]
noncomputable def K10 (k : Nat) : C := outD h c4 (K8 k)
noncomputable def K11 (k : Nat) : C := seqC E h k c4 (K8 k)
noncomputable def c5 : Code := subC b [1, 1, 0, 0, 1, 1, 1]
noncomputable def K12 (k : Nat) : C := outD h c5 (K8 k)
noncomputable def K13 (k : Nat) : C := seqC E h k c5 (K8 k)
noncomputable def c6 : Code := subC b [1, 1, 0, 0, 1, 1, 1, 0, 1]
noncomputable def K14 (k : Nat) : C := outD h c6 (K12 k)
noncomputable def K15 (k : Nat) : C := seqC E h k c6 (K12 k)
noncomputable def c7 : Code := subC b [1, 1, 0, 0, 1, 1, 1, 1, 1]
noncomputable def K16 (k : Nat) : C := outD h c7 (K12 k)
noncomputable def K17 (k : Nat) : C := seqC E h k c7 (K12 k)
noncomputable def c8 : Code := subC b [1, 1, 0, 0, 1, 1, 1, 1, 1, 0, 1]
noncomputable def K18 (k : Nat) : C := outD h c8 (K16 k)
noncomputable def K19 (k : Nat) : C := seqC E h k c8 (K16 k)
noncomputable def c9 : Code := subC b [1, 1, 1, 1]
noncomputable def K20 (k : Nat) : C := outD h c9 (K5 k)
noncomputable def K21 (k : Nat) : C := seqC E h k c9 (K5 k)
noncomputable def c10 : Code := subC b [1, 1, 1, 1, 1]
noncomputable def K22 (k : Nat) : C := outD h c10 (K20 k)
noncomputable def K23 (k : Nat) : C := seqC E h k c10 (K20 k)
noncomputable def c11 : Code := subC b [1, 1, 1, 1, 0, 1]
noncomputable def K24 (k : Nat) : C := outD h c11 (K23 k)
noncomputable def K25 (k : Nat) : C := seqC E h k c11 (K23 k)
noncomputable def c12 : Code := subC b [1, 1, 1, 1, 0, 1, 0, 1]
noncomputable def K26 (k : Nat) : C := outD h c12 (K24 k)
noncomputable def K27 (k : Nat) : C := seqC E h k c12 (K24 k)
noncomputable def c13 : Code := subC b [1, 1, 1, 1, 0, 1, 0, 1, 1]
noncomputable def K28 (k : Nat) : C := outD h c13 (K26 k)
noncomputable def K29 (k : Nat) : C := seqC E h k c13 (K26 k)
noncomputable def c14 : Code := subC b [1, 1, 1, 1, 1, 1]
noncomputable def K30 (k : Nat) : C := outD h c14 (K22 k)
noncomputable def K31 (k : Nat) : C := seqC E h k c14 (K22 k)
noncomputable def c15 : Code := subC b [1, 1, 1, 1, 1, 1, 1]
noncomputable def K32 (k : Nat) : C := outD h c15 (K30 k)
noncomputable def K33 (k : Nat) : C := seqC E h k c15 (K30 k)
abbrev T3 := (List UInt8) → Int → Int → Bool → ((Int) × ((List (List UInt8)) × ((List (Int)) × (List ((Int) × (Int)))))) → ((Int) × ((List (List UInt8)) × ((List (Int)) × (List ((Int) × (Int)))))) → R
abbrev T2 := (List UInt8) → Int → Int → Bool → Bool → ((Int) × ((List (List UInt8)) × ((List (Int)) × (List ((Int) × (Int)))))) → ((Int) × ((List (List UInt8)) × ((List (Int)) × (List ((Int) × (Int)))))) → R
abbrev T1 := (List UInt8) → Int → Int → Bool → Bool → ((Int) × ((List (List UInt8)) × ((List (Int)) × (List ((Int) × (Int)))))) → ((Int) × ((List (List UInt8)) × ((List (Int)) × (List ((Int) × (Int)))))) → R
abbrev T0 := ((Int) × ((List (List UInt8)) × ((List (Int)) × (List ((Int) × (Int)))))) → (List UInt8) → Int → Int → R
abbrev s3 : (List UInt8) → Int → Int → Bool → ((Int) × ((List (List UInt8)) × ((List (Int)) × (List ((Int) × (Int)))))) → ((Int) × ((List (List UInt8)) × ((List (Int)) × (List ((Int) × (Int)))))) → ST cx := fun (x1 : List UInt8) (x2 x10 : Int) (x11 : Bool) (m4 m8 : (Int) × ((List (List UInt8)) × ((List (Int)) × (List ((Int) × (Int)))))) => ({ vars := [(1, .v .str .ro x1), (2, .v (.int .i64) .ro x2), (4, .addr (.mem 4) []), (8, .addr (.mem 8) []), (10, .v (.int .i64) .ro x10), (11, .v .bool .ro x11)], scr := [], mems := [(4, ⟨(.agg (.pair (.int .i64) (.pair (.slice 9 .str) (.pair (.slice 3 (.int .i64)) (.slice 33 (.agg (.pair (.int .i64) (.int .i64)))))))), .ro, m4⟩), (8, ⟨(.agg (.pair (.int .i64) (.pair (.slice 9 .str) (.pair (.slice 3 (.int .i64)) (.slice 33 (.agg (.pair (.int .i64) (.int .i64)))))))), .ro, m8⟩)] } : ST cx)
noncomputable def u3 (k : Nat) : T3 := fun (x1 : List UInt8) (x2 x10 : Int) (x11 : Bool) (m4 m8 : (Int) × ((List (List UInt8)) × ((List (Int)) × (List ((Int) × (Int)))))) => uK (run E h k c2) (s3 x1 x2 x10 x11 m4 m8) (K5 k)
noncomputable abbrev l3 (k : Nat) : T3 := fun (x1 : List UInt8) (x2 x10 : Int) (x11 : Bool) (m4 m8 : (Int) × ((List (List UInt8)) × ((List (Int)) × (List ((Int) × (Int)))))) => cutK (run E h k c2) (s3 x1 x2 x10 x11 m4 m8) (K5 k)
abbrev s2 : (List UInt8) → Int → Int → Bool → Bool → ((Int) × ((List (List UInt8)) × ((List (Int)) × (List ((Int) × (Int)))))) → ((Int) × ((List (List UInt8)) × ((List (Int)) × (List ((Int) × (Int)))))) → ST cx := fun (x1 : List UInt8) (x2 x10 : Int) (x11 x34 : Bool) (m4 m8 : (Int) × ((List (List UInt8)) × ((List (Int)) × (List ((Int) × (Int)))))) => ({ vars := [(1, .v .str .ro x1), (2, .v (.int .i64) .ro x2), (4, .addr (.mem 4) []), (8, .addr (.mem 8) []), (10, .v (.int .i64) .ro x10), (11, .v .bool .ro x11), (34, .v .bool .ro x34)], scr := [], mems := [(4, ⟨(.agg (.pair (.int .i64) (.pair (.slice 9 .str) (.pair (.slice 3 (.int .i64)) (.slice 33 (.agg (.pair (.int .i64) (.int .i64)))))))), .ro, m4⟩), (8, ⟨(.agg (.pair (.int .i64) (.pair (.slice 9 .str) (.pair (.slice 3 (.int .i64)) (.slice 33 (.agg (.pair (.int .i64) (.int .i64)))))))), .ro, m8⟩)] } : ST cx)
noncomputable def u2 (k : Nat) : T2 := fun (x1 : List UInt8) (x2 x10 : Int) (x11 x34 : Bool) (m4 m8 : (Int) × ((List (List UInt8)) × ((List (Int)) × (List ((Int) × (Int)))))) => uK (run E h k c7) (s2 x1 x2 x10 x11 x34 m4 m8) (K16 k)
noncomputable abbrev l2 (k : Nat) : T2 := fun (x1 : List UInt8) (x2 x10 : Int) (x11 x34 : Bool) (m4 m8 : (Int) × ((List (List UInt8)) × ((List (Int)) × (List ((Int) × (Int)))))) => cutK (run E h k c7) (s2 x1 x2 x10 x11 x34 m4 m8) (K16 k)
abbrev s1 : (List UInt8) → Int → Int → Bool → Bool → ((Int) × ((List (List UInt8)) × ((List (Int)) × (List ((Int) × (Int)))))) → ((Int) × ((List (List UInt8)) × ((List (Int)) × (List ((Int) × (Int)))))) → ST cx := fun (x1 : List UInt8) (x2 x10 : Int) (x11 x25 : Bool) (m4 m8 : (Int) × ((List (List UInt8)) × ((List (Int)) × (List ((Int) × (Int)))))) => ({ vars := [(1, .v .str .ro x1), (2, .v (.int .i64) .ro x2), (4, .addr (.mem 4) []), (8, .addr (.mem 8) []), (10, .v (.int .i64) .ro x10), (11, .v .bool .ro x11), (25, .v .bool .ro x25)], scr := [], mems := [(4, ⟨(.agg (.pair (.int .i64) (.pair (.slice 9 .str) (.pair (.slice 3 (.int .i64)) (.slice 33 (.agg (.pair (.int .i64) (.int .i64)))))))), .ro, m4⟩), (8, ⟨(.agg (.pair (.int .i64) (.pair (.slice 9 .str) (.pair (.slice 3 (.int .i64)) (.slice 33 (.agg (.pair (.int .i64) (.int .i64)))))))), .ro, m8⟩)] } : ST cx)
noncomputable def u1 (k : Nat) : T1 := fun (x1 : List UInt8) (x2 x10 : Int) (x11 x25 : Bool) (m4 m8 : (Int) × ((List (List UInt8)) × ((List (Int)) × (List ((Int) × (Int)))))) => uK (run E h k c5) (s1 x1 x2 x10 x11 x25 m4 m8) (K12 k)
noncomputable abbrev l1 (k : Nat) : T1 := fun (x1 : List UInt8) (x2 x10 : Int) (x11 x25 : Bool) (m4 m8 : (Int) × ((List (List UInt8)) × ((List (Int)) × (List ((Int) × (Int)))))) => cutK (run E h k c5) (s1 x1 x2 x10 x11 x25 m4 m8) (K12 k)
noncomputable def u0 (k : Nat) : T0 := fun (x0 : (Int) × ((List (List UInt8)) × ((List (Int)) × (List ((Int) × (Int)))))) (x1 : List UInt8) (x2 x3 : Int) => runOf (S := cx) E h k Try.f28 [.val (.agg (.pair (.int .i64) (.pair (.slice 9 .str) (.pair (.slice 3 (.int .i64)) (.slice 33 (.agg (.pair (.int .i64) (.int .i64)))))))), .val .str, .val (.int .i64), .val (.int .i64)] (.pair (.agg (.pair (.int .i64) (.pair (.slice 9 .str) (.pair (.slice 3 (.int .i64)) (.slice 33 (.agg (.pair (.int .i64) (.int .i64)))))))) (.int .i64)) .ro (x0, x1, x2, x3, ())
def t3 : T3 := fun (x1 : List UInt8) (x2 x10 : Int) (x11 : Bool) (m4 m8 : (Int) × ((List (List UInt8)) × ((List (Int)) × (List ((Int) × (Int)))))) => 
  (bindR (s_marks_of (m4, ())) fun r3 => (iteB x11 (withinR x10 (List.length r3.1.2.2.1) fun q4 => (some (((r3.1.1, (r3.1.2.1, ((List.set r3.1.2.2.1 q4 x2), r3.1.2.2.2))), (0 : Int)), ()))) (meetK (meetK (bindR (s_InsertS r3.1.2.1 (x10, ()) ([x1] : List (List UInt8))) fun r5 => (bindR (s_InsertI r3.1.2.2.1 (x10, ()) ([x2] : List (Int))) fun r6 => (some (((r3.1.1, (r5, (r6, r3.1.2.2.2))), (0 : Int)), ())))) (meetK (meetK (bindR (s_InsertS r3.1.2.1 (x10, ()) ([x1] : List (List UInt8))) fun r7 => (bindR (s_InsertI r3.1.2.2.1 (x10, ()) ([x2] : List (Int))) fun r8 => (some (((r3.1.1, (r7, (r8, r3.1.2.2.2))), (0 : Int)), ())))) (bindR (s_InsertS r3.1.2.1 (x10, ()) ([x1] : List (List UInt8))) fun r9 => (bindR (s_InsertI r3.1.2.2.1 (x10, ()) ([x2] : List (Int))) fun r10 => (some (((r3.1.1, (r9, (r10, r3.1.2.2.2))), (0 : Int)), ()))))) (meetK (bindR (s_InsertS r3.1.2.1 (x10, ()) ([x1] : List (List UInt8))) fun r11 => (bindR (s_InsertI r3.1.2.2.1 (x10, ()) ([x2] : List (Int))) fun r12 => (some (((r3.1.1, (r11, (r12, r3.1.2.2.2))), (0 : Int)), ())))) (bindR (s_InsertS r3.1.2.1 (x10, ()) ([x1] : List (List UInt8))) fun r13 => (bindR (s_InsertI r3.1.2.2.1 (x10, ()) ([x2] : List (Int))) fun r14 => (some (((r3.1.1, (r13, (r14, r3.1.2.2.2))), (0 : Int)), ()))))))) (meetK (meetK (meetK (bindR (s_InsertS r3.1.2.1 (x10, ()) ([x1] : List (List UInt8))) fun r15 => (bindR (s_InsertI r3.1.2.2.1 (x10, ()) ([x2] : List (Int))) fun r16 => (some (((r3.1.1, (r15, (r16, r3.1.2.2.2))), (0 : Int)), ())))) (bindR (s_InsertS r3.1.2.1 (x10, ()) ([x1] : List (List UInt8))) fun r17 => (bindR (s_InsertI r3.1.2.2.1 (x10, ()) ([x2] : List (Int))) fun r18 => (some (((r3.1.1, (r17, (r18, r3.1.2.2.2))), (0 : Int)), ()))))) (bindR (s_InsertS r3.1.2.1 (x10, ()) ([x1] : List (List UInt8))) fun r19 => (bindR (s_InsertI r3.1.2.2.1 (x10, ()) ([x2] : List (Int))) fun r20 => (some (((r3.1.1, (r19, (r20, r3.1.2.2.2))), (0 : Int)), ()))))) (meetK (meetK (bindR (s_InsertS r3.1.2.1 (x10, ()) ([x1] : List (List UInt8))) fun r21 => (bindR (s_InsertI r3.1.2.2.1 (x10, ()) ([x2] : List (Int))) fun r22 => (some (((r3.1.1, (r21, (r22, r3.1.2.2.2))), (0 : Int)), ())))) (bindR (s_InsertS r3.1.2.1 (x10, ()) ([x1] : List (List UInt8))) fun r23 => (bindR (s_InsertI r3.1.2.2.1 (x10, ()) ([x2] : List (Int))) fun r24 => (some (((r3.1.1, (r23, (r24, r3.1.2.2.2))), (0 : Int)), ()))))) (bindR (s_InsertS r3.1.2.1 (x10, ()) ([x1] : List (List UInt8))) fun r25 => (bindR (s_InsertI r3.1.2.2.1 (x10, ()) ([x2] : List (Int))) fun r26 => (some (((r3.1.1, (r25, (r26, r3.1.2.2.2))), (0 : Int)), ())))))))))
theorem e3 (k : Nat) : u3 k = t3 := by kernel_rfl
theorem g3 (k : Nat) : l3 k = u3 k := funext fun _ => funext fun _ => funext fun _ => funext fun _ => funext fun _ => funext fun _ => cut_u _ _ _
def p3 (k : Nat) : T3 := t3
theorem o3 (k : Nat) : l3 k = p3 k := (Eq.trans (b := u3 k) (g3 k) (Eq.trans (b := t3) (e3 k) (by kernel_rfl)))
def t2 (f3 : T3) : T2 := fun (x1 : List UInt8) (x2 x10 : Int) (x11 x34 : Bool) (m4 m8 : (Int) × ((List (List UInt8)) × ((List (Int)) × (List ((Int) × (Int)))))) => 
  (iteB x34 (some ((((0 : Int), (([] : List (List UInt8)), (([] : List (Int)), ([] : List ((Int) × (Int)))))), (13 : Int)), ())) (f3 x1 x2 x10 x11 m4 m8))
theorem e2 (k : Nat) : u2 k = t2 (l3 k) := by kernel_rfl
theorem g2 (k : Nat) : l2 k = u2 k := funext fun _ => funext fun _ => funext fun _ => funext fun _ => funext fun _ => funext fun _ => funext fun _ => cut_u _ _ _
theorem d2 {x3 y3 : T3} (h3 : x3 = y3) : t2 x3 = t2 y3 := by subst h3; rfl
def p2 (k : Nat) : T2 := t2 (p3 k)
theorem o2 (k : Nat) : l2 k = p2 k := (Eq.trans (b := u2 k) (g2 k) (Eq.trans (b := t2 (l3 k)) (e2 k) (Eq.trans (b := t2 (p3 k)) (d2 (o3 k)) (by kernel_rfl))))
def t1 (f2 : T2) : T1 := fun (x1 : List UInt8) (x2 x10 : Int) (x11 x25 : Bool) (m4 m8 : (Int) × ((List (List UInt8)) × ((List (Int)) × (List ((Int) × (Int)))))) => 
  (iteB x25 (some ((((0 : Int), (([] : List (List UInt8)), (([] : List (Int)), ([] : List ((Int) × (Int)))))), (3 : Int)), ())) (iteB (notB x11) (f2 x1 x2 x10 x11 (decide ((32 : Int) ≤ ((List.length m4.2.1 : Nat) : Int))) m4 m8) (f2 x1 x2 x10 x11 false m4 m8)))
theorem e1 (k : Nat) : u1 k = t1 (l2 k) := by kernel_rfl
theorem g1 (k : Nat) : l1 k = u1 k := funext fun _ => funext fun _ => funext fun _ => funext fun _ => funext fun _ => funext fun _ => funext fun _ => cut_u _ _ _
theorem d1 {x2 y2 : T2} (h2 : x2 = y2) : t1 x2 = t1 y2 := by subst h2; rfl
def p1 (k : Nat) : T1 := t1 (p2 k)
theorem o1 (k : Nat) : l1 k = p1 k := (Eq.trans (b := u1 k) (g1 k) (Eq.trans (b := t1 (l2 k)) (e1 k) (Eq.trans (b := t1 (p2 k)) (d1 (o2 k)) (by kernel_rfl))))
def t0 (f1 : T1) : T0 := fun (x0 : (Int) × ((List (List UInt8)) × ((List (Int)) × (List ((Int) × (Int)))))) (x1 : List UInt8) (x2 x3 : Int) => 
  (bindR (s_slices_BinarySearch (x0.2.1, (x1, ()))) fun r1 => (bindR (s_marks_isName (x1, ())) fun r2 => (iteB (notB r2.1) (some ((((0 : Int), (([] : List (List UInt8)), (([] : List (Int)), ([] : List ((Int) × (Int)))))), (1 : Int)), ())) (iteB (decide (x2 < (0 : Int))) (f1 x1 x2 r1.1.1 r1.1.2 true x0 ((0 : Int), (([] : List (List UInt8)), (([] : List (Int)), ([] : List ((Int) × (Int))))))) (f1 x1 x2 r1.1.1 r1.1.2 (decide (x3 < x2)) x0 ((0 : Int), (([] : List (List UInt8)), (([] : List (Int)), ([] : List ((Int) × (Int)))))))))))
theorem e0 (k : Nat) : u0 k = t0 (l1 k) := by kernel_rfl
theorem d0 {x1 y1 : T1} (h1 : x1 = y1) : t0 x1 = t0 y1 := by subst h1; rfl
def p0 (k : Nat) : T0 := t0 (p1 k)
theorem o0 (k : Nat) : u0 k = p0 k := (Eq.trans (b := t0 (l1 k)) (e0 k) (Eq.trans (b := t0 (p1 k)) (d0 (o1 k)) (by kernel_rfl)))
end marks_Set
def s_marks_Set (a : ((Int) × ((List (List UInt8)) × ((List (Int)) × (List ((Int) × (Int)))))) × ((List UInt8) × ((Int) × ((Int) × (Unit))))) : Option ((((Int) × ((List (List UInt8)) × ((List (Int)) × (List ((Int) × (Int)))))) × (Int)) × (Unit)) := marks_Set.p0 (fuel) a.1 a.2.1 a.2.2.1 a.2.2.2.1
noncomputable def F_marks_Set : FSpec cx.toNm := { ps := [.val (.agg (.pair (.int .i64) (.pair (.slice 9 .str) (.pair (.slice 3 (.int .i64)) (.slice 33 (.agg (.pair (.int .i64) (.int .i64)))))))), .val .str, .val (.int .i64), .val (.int .i64)], nres := 2, rt := (.pair (.agg (.pair (.int .i64) (.pair (.slice 9 .str) (.pair (.slice 3 (.int .i64)) (.slice 33 (.agg (.pair (.int .i64) (.int .i64)))))))) (.int .i64)), rm := .ro, f := s_marks_Set }
theorem w_marks_Set (a : ((Int) × ((List (List UInt8)) × ((List (Int)) × (List ((Int) × (Int)))))) × ((List UInt8) × ((Int) × ((Int) × (Unit))))) : runOf (S := cx) marks_Set.E marks_Set.h (fuel) Try.f28 F_marks_Set.ps F_marks_Set.rt F_marks_Set.rm a = F_marks_Set.f a := Eq.trans (b := marks_Set.u0 (fuel) a.1 a.2.1 a.2.2.1 a.2.2.2.1) (by kernel_rfl) (Eq.trans (b := marks_Set.p0 (fuel) a.1 a.2.1 a.2.2.1 a.2.2.2.1) (congrFun (congrFun (congrFun (congrFun (marks_Set.o0 (fuel)) a.1) a.2.1) a.2.2.1) a.2.2.2.1) (by kernel_rfl))
theorem ok_marks_Set : FnOk Try.prog F_marks_Set 28 := fn_of (hn := marks_Set.h) (E := marks_Set.E) cxOk (tysT _) (fs_cons ok_marks_of (fs_cons ok_marks_isName (fs_cons ok_slices_BinarySearch (fs_cons ok_InsertS (fs_cons ok_InsertI fs_nil))))) follows Try.func28 (by kernel_rfl) (fun a r h => ⟨fuel, Eq.trans (w_marks_Set a) h⟩)
namespace marks_Place
noncomputable def E : Env cx := { tys := tys, fs := fsOf [(80, F_slices_BinarySearch)] }
abbrev R := Option (((Int) × (Bool)) × (Unit))
abbrev C := Exit → ST cx → R
noncomputable def b : Code := bodyC Try.f30
noncomputable def h : Hint := { vs := [0, 1, 2, 4, 5, 6, 7], nil := [], cuts := [(3, ([2, 6, 23], [2]), ([2, 6], [2])), (4, ([2, 6], [2]), ([2, 6], [2]))], ret := ([4, 5], [2]), ords := [] }
noncomputable def K0 : C := fin (S := cx) E Try.f30.results.toList (.pair (.int .i64) .bool) .ro [] []
noncomputable def c0 : Code := subC b [1]
noncomputable def K1 (k : Nat) : C := outD h c0 K0
noncomputable def K2 (k : Nat) : C := seqC E h k c0 K0
noncomputable def c1 : Code := subC b [1, 1]
noncomputable def K3 (k : Nat) : C := outD h c1 (K1 k)
noncomputable def K4 (k : Nat) : C := seqC E h k c1 (K1 k)
noncomputable def c2 : Code := subC b [1, 1, 1]
noncomputable def K5 (k : Nat) : C := outD h c2 (K3 k)
noncomputable def K6 (k : Nat) : C := seqC E h k c2 (K3 k)
noncomputable def c3 : Code := subC b [1, 1, 0, 1]
noncomputable def K7 (k : Nat) : C := outD h c3 (K6 k)
noncomputable def K8 (k : Nat) : C := seqC E h k c3 (K6 k)
noncomputable def c4 : Code := subC b [1, 1, 0, 1, 0, 1]
noncomputable def K9 (k : Nat) : C := outD h c4 (K7 k)
noncomputable def K10 (k : Nat) : C := seqC E h k c4 (K7 k)
noncomputable def c5 : Code := subC b [1, 1, 1, 1]
noncomputable def K11 (k : Nat) : C := outD h c5 (K5 k)
noncomputable def K12 (k : Nat) : C := seqC E h k c5 (K5 k)
abbrev T2 := Int → ((Int) × ((List (List UInt8)) × ((List (Int)) × (List ((Int) × (Int)))))) → R
abbrev T1 := Int → Bool → ((Int) × ((List (List UInt8)) × ((List (Int)) × (List ((Int) × (Int)))))) → R
abbrev T0 := ((Int) × ((List (List UInt8)) × ((List (Int)) × (List ((Int) × (Int)))))) → (List UInt8) → R
abbrev s2 : Int → ((Int) × ((List (List UInt8)) × ((List (Int)) × (List ((Int) × (Int)))))) → ST cx := fun (x6 : Int) (m2 : (Int) × ((List (List UInt8)) × ((List (Int)) × (List ((Int) × (Int)))))) => ({ vars := [(2, .addr (.mem 2) []), (6, .v (.int .i64) .ro x6)], scr := [], mems := [(2, ⟨(.agg (.pair (.int .i64) (.pair (.slice 9 .str) (.pair (.slice 3 (.int .i64)) (.slice 33 (.agg (.pair (.int .i64) (.int .i64)))))))), .ro, m2⟩)] } : ST cx)
noncomputable def u2 (k : Nat) : T2 := fun (x6 : Int) (m2 : (Int) × ((List (List UInt8)) × ((List (Int)) × (List ((Int) × (Int)))))) => uK (run E h k c2) (s2 x6 m2) (K5 k)
noncomputable abbrev l2 (k : Nat) : T2 := fun (x6 : Int) (m2 : (Int) × ((List (List UInt8)) × ((List (Int)) × (List ((Int) × (Int)))))) => cutK (run E h k c2) (s2 x6 m2) (K5 k)
abbrev s1 : Int → Bool → ((Int) × ((List (List UInt8)) × ((List (Int)) × (List ((Int) × (Int)))))) → ST cx := fun (x6 : Int) (x23 : Bool) (m2 : (Int) × ((List (List UInt8)) × ((List (Int)) × (List ((Int) × (Int)))))) => ({ vars := [(2, .addr (.mem 2) []), (6, .v (.int .i64) .ro x6), (23, .v .bool .ro x23)], scr := [], mems := [(2, ⟨(.agg (.pair (.int .i64) (.pair (.slice 9 .str) (.pair (.slice 3 (.int .i64)) (.slice 33 (.agg (.pair (.int .i64) (.int .i64)))))))), .ro, m2⟩)] } : ST cx)
noncomputable def u1 (k : Nat) : T1 := fun (x6 : Int) (x23 : Bool) (m2 : (Int) × ((List (List UInt8)) × ((List (Int)) × (List ((Int) × (Int)))))) => uK (run E h k c3) (s1 x6 x23 m2) (K7 k)
noncomputable abbrev l1 (k : Nat) : T1 := fun (x6 : Int) (x23 : Bool) (m2 : (Int) × ((List (List UInt8)) × ((List (Int)) × (List ((Int) × (Int)))))) => cutK (run E h k c3) (s1 x6 x23 m2) (K7 k)
noncomputable def u0 (k : Nat) : T0 := fun (x0 : (Int) × ((List (List UInt8)) × ((List (Int)) × (List ((Int) × (Int)))))) (x1 : List UInt8) => runOf (S := cx) E h k Try.f30 [.val (.agg (.pair (.int .i64) (.pair (.slice 9 .str) (.pair (.slice 3 (.int .i64)) (.slice 33 (.agg (.pair (.int .i64) (.int .i64)))))))), .val .str] (.pair (.int .i64) .bool) .ro (x0, x1, ())
def t2 : T2 := fun (x6 : Int) (m2 : (Int) × ((List (List UInt8)) × ((List (Int)) × (List ((Int) × (Int)))))) => 
  (withinR x6 (List.length m2.2.2.1) fun q2 => (some (((List.getD m2.2.2.1 q2 (0 : Int)), true), ())))
theorem e2 (k : Nat) : u2 k = t2 := by kernel_rfl
theorem g2 (k : Nat) : l2 k = u2 k := funext fun _ => funext fun _ => cut_u _ _ _
def p2 (k : Nat) : T2 := t2
theorem o2 (k : Nat) : l2 k = p2 k := (Eq.trans (b := u2 k) (g2 k) (Eq.trans (b := t2) (e2 k) (by kernel_rfl)))
def t1 (f2 : T2) : T1 := fun (x6 : Int) (x23 : Bool) (m2 : (Int) × ((List (List UInt8)) × ((List (Int)) × (List ((Int) × (Int)))))) => 
  (iteB x23 (some (((0 : Int), false), ())) (f2 x6 m2))
theorem e1 (k : Nat) : u1 k = t1 (l2 k) := by kernel_rfl
theorem g1 (k : Nat) : l1 k = u1 k := funext fun _ => funext fun _ => funext fun _ => cut_u _ _ _
theorem d1 {x2 y2 : T2} (h2 : x2 = y2) : t1 x2 = t1 y2 := by subst h2; rfl
def p1 (k : Nat) : T1 := t1 (p2 k)
theorem o1 (k : Nat) : l1 k = p1 k := (Eq.trans (b := u1 k) (g1 k) (Eq.trans (b := t1 (l2 k)) (e1 k) (Eq.trans (b := t1 (p2 k)) (d1 (o2 k)) (by kernel_rfl))))
def t0 (f1 : T1) : T0 := fun (x0 : (Int) × ((List (List UInt8)) × ((List (Int)) × (List ((Int) × (Int)))))) (x1 : List UInt8) => 
  (bindR (s_slices_BinarySearch (x0.2.1, (x1, ()))) fun r1 => (iteB (notB r1.1.2) (f1 r1.1.1 true x0) (f1 r1.1.1 (decide (((List.length x0.2.2.1 : Nat) : Int) ≤ r1.1.1)) x0)))
theorem e0 (k : Nat) : u0 k = t0 (l1 k) := by kernel_rfl
theorem d0 {x1 y1 : T1} (h1 : x1 = y1) : t0 x1 = t0 y1 := by subst h1; rfl
def p0 (k : Nat) : T0 := t0 (p1 k)
theorem o0 (k : Nat) : u0 k = p0 k := (Eq.trans (b := t0 (l1 k)) (e0 k) (Eq.trans (b := t0 (p1 k)) (d0 (o1 k)) (by kernel_rfl)))
end marks_Place
def s_marks_Place (a : ((Int) × ((List (List UInt8)) × ((List (Int)) × (List ((Int) × (Int)))))) × ((List UInt8) × (Unit))) : Option (((Int) × (Bool)) × (Unit)) := marks_Place.p0 (fuel) a.1 a.2.1
noncomputable def F_marks_Place : FSpec cx.toNm := { ps := [.val (.agg (.pair (.int .i64) (.pair (.slice 9 .str) (.pair (.slice 3 (.int .i64)) (.slice 33 (.agg (.pair (.int .i64) (.int .i64)))))))), .val .str], nres := 2, rt := (.pair (.int .i64) .bool), rm := .ro, f := s_marks_Place }
theorem w_marks_Place (a : ((Int) × ((List (List UInt8)) × ((List (Int)) × (List ((Int) × (Int)))))) × ((List UInt8) × (Unit))) : runOf (S := cx) marks_Place.E marks_Place.h (fuel) Try.f30 F_marks_Place.ps F_marks_Place.rt F_marks_Place.rm a = F_marks_Place.f a := Eq.trans (b := marks_Place.u0 (fuel) a.1 a.2.1) (by kernel_rfl) (Eq.trans (b := marks_Place.p0 (fuel) a.1 a.2.1) (congrFun (congrFun (marks_Place.o0 (fuel)) a.1) a.2.1) (by kernel_rfl))
theorem ok_marks_Place : FnOk Try.prog F_marks_Place 30 := fn_of (hn := marks_Place.h) (E := marks_Place.E) cxOk (tysT _) (fs_cons ok_slices_BinarySearch fs_nil) follows Try.func30 (by kernel_rfl) (fun a r h => ⟨fuel, Eq.trans (w_marks_Place a) h⟩)
namespace marks_isSpan
noncomputable def E : Env cx := { tys := tys, fs := fsOf [] }
abbrev R := Option ((Bool) × (Unit))
abbrev C := Exit → ST cx → R
noncomputable def b : Code := bodyC Try.f79
noncomputable def h : Hint := { vs := [0, 1, 2, 4], nil := [], cuts := [], ret := ([4], [2]), ords := [] }
noncomputable def K0 : C := fin (S := cx) E Try.f79.results.toList .bool .ro [] []
noncomputable def c0 : Code := subC b [1]
noncomputable def K1 (k : Nat) : C := outD h c0 K0
noncomputable def K2 (k : Nat) : C := seqC E h k c0 K0
noncomputable def c1 : Code := subC b [1, 1]
noncomputable def K3 (k : Nat) : C := outD h c1 (K1 k)
noncomputable def K4 (k : Nat) : C := seqC E h k c1 (K1 k)
abbrev T0 := ((Int) × (Int)) → Int → R
noncomputable def u0 (k : Nat) : T0 := fun (x0 : (Int) × (Int)) (x1 : Int) => runOf (S := cx) E h k Try.f79 [.val (.agg (.pair (.int .i64) (.int .i64))), .val (.int .i64)] .bool .ro (x0, x1, ())
def t0 : T0 := fun (x0 : (Int) × (Int)) (x1 : Int) => 
  (iteB (decide ((0 : Int) ≤ x0.1)) (iteB (decide (x0.1 ≤ x0.2)) (some ((decide (x0.2 ≤ x1)), ())) (some (false, ()))) (some (false, ())))
theorem e0 (k : Nat) : u0 k = t0 := by kernel_rfl
def p0 (k : Nat) : T0 := t0
theorem o0 (k : Nat) : u0 k = p0 k := (Eq.trans (b := t0) (e0 k) (by kernel_rfl))
end marks_isSpan
def s_marks_isSpan (a : ((Int) × (Int)) × ((Int) × (Unit))) : Option ((Bool) × (Unit)) := marks_isSpan.p0 (fuel) a.1 a.2.1
noncomputable def F_marks_isSpan : FSpec cx.toNm := { ps := [.val (.agg (.pair (.int .i64) (.int .i64))), .val (.int .i64)], nres := 1, rt := .bool, rm := .ro, f := s_marks_isSpan }
theorem w_marks_isSpan (a : ((Int) × (Int)) × ((Int) × (Unit))) : runOf (S := cx) marks_isSpan.E marks_isSpan.h (fuel) Try.f79 F_marks_isSpan.ps F_marks_isSpan.rt F_marks_isSpan.rm a = F_marks_isSpan.f a := Eq.trans (b := marks_isSpan.u0 (fuel) a.1 a.2.1) (by kernel_rfl) (Eq.trans (b := marks_isSpan.p0 (fuel) a.1 a.2.1) (congrFun (congrFun (marks_isSpan.o0 (fuel)) a.1) a.2.1) (by kernel_rfl))
theorem ok_marks_isSpan : FnOk Try.prog F_marks_isSpan 79 := fn_of (hn := marks_isSpan.h) (E := marks_isSpan.E) cxOk (tysT _) fs_nil follows Try.func79 (by kernel_rfl) (fun a r h => ⟨fuel, Eq.trans (w_marks_isSpan a) h⟩)
namespace marks_Push
noncomputable def E : Env cx := { tys := tys, fs := fsOf [(75, F_marks_of), (79, F_marks_isSpan)] }
abbrev R := Option ((((Int) × ((List (List UInt8)) × ((List (Int)) × (List ((Int) × (Int)))))) × (Int)) × (Unit))
abbrev C := Exit → ST cx → R
noncomputable def b : Code := bodyC Try.f73
noncomputable def h : Hint := { vs := [0, 1, 2, 3, 4, 8, 9, 10, 11], nil := [], cuts := [], ret := ([8, 9], [4, 8, 10, 28]), ords := [] }
noncomputable def K0 : C := fin (S := cx) E Try.f73.results.toList (.pair (.agg (.pair (.int .i64) (.pair (.slice 9 .str) (.pair (.slice 3 (.int .i64)) (.slice 33 (.agg (.pair (.int .i64) (.int .i64)))))))) (.int .i64)) .ro [] []
noncomputable def c0 : Code := subC b [1]
noncomputable def K1 (k : Nat) : C := outD h c0 K0
noncomputable def K2 (k : Nat) : C := seqC E h k c0 K0
noncomputable def c1 : Code := subC b [1, 1]
noncomputable def K3 (k : Nat) : C := outD h c1 (K1 k)
noncomputable def K4 (k : Nat) : C := seqC E h k c1 (K1 k)
noncomputable def c2 : Code := subC b [1, 1, 1]
noncomputable def K5 (k : Nat) : C := outD h c2 (K3 k)
noncomputable def K6 (k : Nat) : C := seqC E h k c2 (K3 k)
noncomputable def K7 (k : Nat) : C := blockK 0 (K6 k)
noncomputable def c3 : Code := subC b [1, 1, 0, 0, 1]
noncomputable def K8 (k : Nat) : C := outD h c3 (K7 k)
noncomputable def K9 (k : Nat) : C := seqC E h k c3 (K7 k)
noncomputable def c4 : Code := subC b [1, 1, 0, 0, 1, 0, 1]
noncomputable def K10 (k : Nat) : C := outD h c4 (K8 k)
noncomputable def K11 (k : Nat) : C := seqC E h k c4 (K8 k)
noncomputable def c5 : Code := subC b [1, 1, 0, 0, 1, 1, 1]
noncomputable def K12 (k : Nat) : C := outD h c5 (K8 k)
noncomputable def K13 (k : Nat) : C := seqC E h k c5 (K8 k)
noncomputable def c6 : Code := subC b [1, 1, 0, 0, 1, 1, 1, 0, 1]
noncomputable def K14 (k : Nat) : C := outD h c6 (K12 k)
noncomputable def K15 (k : Nat) : C := seqC E h k c6 (K12 k)
noncomputable def c7 : Code := subC b [1, 1, 1, 1]
noncomputable def K16 (k : Nat) : C := outD h c7 (K5 k)
noncomputable def K17 (k : Nat) : C := seqC E h k c7 (K5 k)
noncomputable def c8 : Code := subC b [1, 1, 1, 1, 1]
noncomputable def K18 (k : Nat) : C := outD h c8 (K16 k)
noncomputable def K19 (k : Nat) : C := seqC E h k c8 (K16 k)
noncomputable def c9 : Code := subC b [1, 1, 1, 1, 1, 1]
noncomputable def K20 (k : Nat) : C := outD h c9 (K18 k)
noncomputable def K21 (k : Nat) : C := seqC E h k c9 (K18 k)
abbrev T0 := ((Int) × ((List (List UInt8)) × ((List (Int)) × (List ((Int) × (Int)))))) → Int → Int → Int → R
noncomputable def u0 (k : Nat) : T0 := fun (x0 : (Int) × ((List (List UInt8)) × ((List (Int)) × (List ((Int) × (Int)))))) (x1 x2 x3 : Int) => runOf (S := cx) E h k Try.f73 [.val (.agg (.pair (.int .i64) (.pair (.slice 9 .str) (.pair (.slice 3 (.int .i64)) (.slice 33 (.agg (.pair (.int .i64) (.int .i64)))))))), .val (.int .i64), .val (.int .i64), .val (.int .i64)] (.pair (.agg (.pair (.int .i64) (.pair (.slice 9 .str) (.pair (.slice 3 (.int .i64)) (.slice 33 (.agg (.pair (.int .i64) (.int .i64)))))))) (.int .i64)) .ro (x0, x1, x2, x3, ())
def t0 : T0 := fun (x0 : (Int) × ((List (List UInt8)) × ((List (Int)) × (List ((Int) × (Int)))))) (x1 x2 x3 : Int) => 
  (bindR (s_marks_isSpan ((x1, x2), (x3, ()))) fun r1 => (iteB (notB r1.1) (some ((((0 : Int), (([] : List (List UInt8)), (([] : List (Int)), ([] : List ((Int) × (Int)))))), (3 : Int)), ())) (iteB (decide ((32 : Int) ≤ ((List.length x0.2.2.2 : Nat) : Int))) (some ((((0 : Int), (([] : List (List UInt8)), (([] : List (Int)), ([] : List ((Int) × (Int)))))), (13 : Int)), ())) (bindR (s_marks_of (x0, ())) fun r2 => (mustR (room r2.1.2.2.2 ([(x1, x2)] : List ((Int) × (Int)))) (some (((r2.1.1, (r2.1.2.1, (r2.1.2.2.1, (r2.1.2.2.2 ++ ([(x1, x2)] : List ((Int) × (Int))))))), (0 : Int)), ())))))))
theorem e0 (k : Nat) : u0 k = t0 := by kernel_rfl
def p0 (k : Nat) : T0 := t0
theorem o0 (k : Nat) : u0 k = p0 k := (Eq.trans (b := t0) (e0 k) (by kernel_rfl))
end marks_Push
def s_marks_Push (a : ((Int) × ((List (List UInt8)) × ((List (Int)) × (List ((Int) × (Int)))))) × ((Int) × ((Int) × ((Int) × (Unit))))) : Option ((((Int) × ((List (List UInt8)) × ((List (Int)) × (List ((Int) × (Int)))))) × (Int)) × (Unit)) := marks_Push.p0 (fuel) a.1 a.2.1 a.2.2.1 a.2.2.2.1
noncomputable def F_marks_Push : FSpec cx.toNm := { ps := [.val (.agg (.pair (.int .i64) (.pair (.slice 9 .str) (.pair (.slice 3 (.int .i64)) (.slice 33 (.agg (.pair (.int .i64) (.int .i64)))))))), .val (.int .i64), .val (.int .i64), .val (.int .i64)], nres := 2, rt := (.pair (.agg (.pair (.int .i64) (.pair (.slice 9 .str) (.pair (.slice 3 (.int .i64)) (.slice 33 (.agg (.pair (.int .i64) (.int .i64)))))))) (.int .i64)), rm := .ro, f := s_marks_Push }
theorem w_marks_Push (a : ((Int) × ((List (List UInt8)) × ((List (Int)) × (List ((Int) × (Int)))))) × ((Int) × ((Int) × ((Int) × (Unit))))) : runOf (S := cx) marks_Push.E marks_Push.h (fuel) Try.f73 F_marks_Push.ps F_marks_Push.rt F_marks_Push.rm a = F_marks_Push.f a := Eq.trans (b := marks_Push.u0 (fuel) a.1 a.2.1 a.2.2.1 a.2.2.2.1) (by kernel_rfl) (Eq.trans (b := marks_Push.p0 (fuel) a.1 a.2.1 a.2.2.1 a.2.2.2.1) (congrFun (congrFun (congrFun (congrFun (marks_Push.o0 (fuel)) a.1) a.2.1) a.2.2.1) a.2.2.2.1) (by kernel_rfl))
theorem ok_marks_Push : FnOk Try.prog F_marks_Push 73 := fn_of (hn := marks_Push.h) (E := marks_Push.E) cxOk (tysT _) (fs_cons ok_marks_of (fs_cons ok_marks_isSpan fs_nil)) follows Try.func73 (by kernel_rfl) (fun a r h => ⟨fuel, Eq.trans (w_marks_Push a) h⟩)
namespace marks_Top
noncomputable def E : Env cx := { tys := tys, fs := fsOf [] }
abbrev R := Option (((Int) × ((Int) × (Bool))) × (Unit))
abbrev C := Exit → ST cx → R
noncomputable def b : Code := bodyC Try.f74
noncomputable def h : Hint := { vs := [0, 1, 2, 3, 4, 5], nil := [], cuts := [], ret := ([2, 3, 4], [1, 5]), ords := [] }
noncomputable def K0 : C := fin (S := cx) E Try.f74.results.toList (.pair (.int .i64) (.pair (.int .i64) .bool)) .ro [] []
noncomputable def c0 : Code := subC b [1]
noncomputable def K1 (k : Nat) : C := outD h c0 K0
noncomputable def K2 (k : Nat) : C := seqC E h k c0 K0
noncomputable def c1 : Code := subC b [1, 1]
noncomputable def K3 (k : Nat) : C := outD h c1 (K1 k)
noncomputable def K4 (k : Nat) : C := seqC E h k c1 (K1 k)
noncomputable def c2 : Code := subC b [1, 0, 1]
noncomputable def K5 (k : Nat) : C := outD h c2 (K4 k)
noncomputable def K6 (k : Nat) : C := seqC E h k c2 (K4 k)
noncomputable def c3 : Code := subC b [1, 0, 1, 0, 1]
noncomputable def K7 (k : Nat) : C := outD h c3 (K5 k)
noncomputable def K8 (k : Nat) : C := seqC E h k c3 (K5 k)
noncomputable def c4 : Code := subC b [1, 1, 1]
noncomputable def K9 (k : Nat) : C := outD h c4 (K3 k)
noncomputable def K10 (k : Nat) : C := seqC E h k c4 (K3 k)
noncomputable def c5 : Code := subC b [1, 1, 1, 1]
noncomputable def K11 (k : Nat) : C := outD h c5 (K9 k)
noncomputable def K12 (k : Nat) : C := seqC E h k c5 (K9 k)
abbrev T0 := ((Int) × ((List (List UInt8)) × ((List (Int)) × (List ((Int) × (Int)))))) → R
noncomputable def u0 (k : Nat) : T0 := fun (x0 : (Int) × ((List (List UInt8)) × ((List (Int)) × (List ((Int) × (Int)))))) => runOf (S := cx) E h k Try.f74 [.val (.agg (.pair (.int .i64) (.pair (.slice 9 .str) (.pair (.slice 3 (.int .i64)) (.slice 33 (.agg (.pair (.int .i64) (.int .i64))))))))] (.pair (.int .i64) (.pair (.int .i64) .bool)) .ro (x0, ())
def t0 : T0 := fun (x0 : (Int) × ((List (List UInt8)) × ((List (Int)) × (List ((Int) × (Int)))))) => 
  (iteB (decide (((List.length x0.2.2.2 : Nat) : Int) = (0 : Int))) (some (((0 : Int), ((0 : Int), false)), ())) (withinR (w64 (((List.length x0.2.2.2 : Nat) : Int) - (1 : Int))) (List.length x0.2.2.2) fun q1 => (some (((List.getD x0.2.2.2 q1 ((0 : Int), (0 : Int))).1, ((List.getD x0.2.2.2 q1 ((0 : Int), (0 : Int))).2, true)), ()))))
theorem e0 (k : Nat) : u0 k = t0 := by kernel_rfl
def p0 (k : Nat) : T0 := t0
theorem o0 (k : Nat) : u0 k = p0 k := (Eq.trans (b := t0) (e0 k) (by kernel_rfl))
end marks_Top
def s_marks_Top (a : ((Int) × ((List (List UInt8)) × ((List (Int)) × (List ((Int) × (Int)))))) × (Unit)) : Option (((Int) × ((Int) × (Bool))) × (Unit)) := marks_Top.p0 (fuel) a.1
noncomputable def F_marks_Top : FSpec cx.toNm := { ps := [.val (.agg (.pair (.int .i64) (.pair (.slice 9 .str) (.pair (.slice 3 (.int .i64)) (.slice 33 (.agg (.pair (.int .i64) (.int .i64))))))))], nres := 3, rt := (.pair (.int .i64) (.pair (.int .i64) .bool)), rm := .ro, f := s_marks_Top }
theorem w_marks_Top (a : ((Int) × ((List (List UInt8)) × ((List (Int)) × (List ((Int) × (Int)))))) × (Unit)) : runOf (S := cx) marks_Top.E marks_Top.h (fuel) Try.f74 F_marks_Top.ps F_marks_Top.rt F_marks_Top.rm a = F_marks_Top.f a := Eq.trans (b := marks_Top.u0 (fuel) a.1) (by kernel_rfl) (Eq.trans (b := marks_Top.p0 (fuel) a.1) (congrFun (marks_Top.o0 (fuel)) a.1) (by kernel_rfl))
theorem ok_marks_Top : FnOk Try.prog F_marks_Top 74 := fn_of (hn := marks_Top.h) (E := marks_Top.E) cxOk (tysT _) fs_nil follows Try.func74 (by kernel_rfl) (fun a r h => ⟨fuel, Eq.trans (w_marks_Top a) h⟩)
namespace law25_alive
noncomputable def E : Env cx := { tys := tys, fs := fsOf [(20, F_marks_Move), (28, F_marks_Set), (30, F_marks_Place), (73, F_marks_Push), (74, F_marks_Top)] }
abbrev R := Option ((Bool) × (Unit))
abbrev C := Exit → ST cx → R
noncomputable def b : Code := bodyC Try.f17
noncomputable def h : Hint := { vs := [0, 1, 2, 3, 4, 5, 6, 7, 8, 9], nil := [], cuts := [], ret := ([0], [1, 4]), ords := [] }
noncomputable def K0 : C := fin (S := cx) E Try.f17.results.toList .bool .ro [] []
noncomputable def c0 : Code := subC b [1]
noncomputable def K1 (k : Nat) : C := outD h c0 K0
noncomputable def K2 (k : Nat) : C := seqC E h k c0 K0
noncomputable def c1 : Code := subC b [1, 1]
noncomputable def K3 (k : Nat) : C := outD h c1 (K1 k)
noncomputable def K4 (k : Nat) : C := seqC E h k c1 (K1 k)
noncomputable def c2 : Code := subC b [1, 1, 1]
noncomputable def K5 (k : Nat) : C := outD h c2 (K3 k)
noncomputable def K6 (k : Nat) : C := seqC E h k c2 (K3 k)
noncomputable def c3 : Code := subC b [1, 1, 1, 1]
noncomputable def K7 (k : Nat) : C := outD h c3 (K5 k)
noncomputable def K8 (k : Nat) : C := seqC E h k c3 (K5 k)
noncomputable def c4 : Code := subC b [1, 1, 1, 1, 1]
noncomputable def K9 (k : Nat) : C := outD h c4 (K7 k)
noncomputable def K10 (k : Nat) : C := seqC E h k c4 (K7 k)
noncomputable def c5 : Code := subC b [1, 1, 1, 1, 1, 1]
noncomputable def K11 (k : Nat) : C := outD h c5 (K9 k)
noncomputable def K12 (k : Nat) : C := seqC E h k c5 (K9 k)
noncomputable def c6 : Code := subC b [1, 1, 1, 1, 1, 1, 1]
noncomputable def K13 (k : Nat) : C := outD h c6 (K11 k)
noncomputable def K14 (k : Nat) : C := seqC E h k c6 (K11 k)
abbrev T0 := R
noncomputable def u0 (k : Nat) : T0 := runOf (S := cx) E h k Try.f17 [] .bool .ro (())
def t0 : T0 := 
  (bindR (s_marks_Set (((2 : Int), (([] : List (List UInt8)), (([] : List (Int)), ([] : List ((Int) × (Int)))))), (([97] : List UInt8), ((2 : Int), ((3 : Int), ()))))) fun r1 => (bindR (s_marks_Push (r1.1.1, ((1 : Int), ((2 : Int), ((3 : Int), ()))))) fun r2 => (bindR (s_marks_Move (r2.1.1, (([((2 : Int), ((0 : Int), ([120, 121] : List UInt8)))] : List ((Int) × ((Int) × (List UInt8)))), ()))) fun r3 => (bindR (s_marks_Place (r3.1, (([97] : List UInt8), ()))) fun r4 => (bindR (s_marks_Top (r3.1, ())) fun r5 => (iteB (decide (r1.1.2 = (0 : Int))) (iteB (decide (r2.1.2 = (0 : Int))) (iteB (decide (r3.1.1 = (4 : Int))) (iteB (decide (r4.1.1 = (2 : Int))) (iteB r4.1.2 (iteB (decide (r5.1.1 = (1 : Int))) (iteB (decide (r5.1.2.1 = (2 : Int))) (some (r5.1.2.2, ())) (some (false, ()))) (some (false, ()))) (some (false, ()))) (some (false, ()))) (some (false, ()))) (some (false, ()))) (some (false, ()))))))))
theorem e0 (k : Nat) : u0 k = t0 := by kernel_rfl
def p0 (k : Nat) : T0 := t0
theorem o0 (k : Nat) : u0 k = p0 k := (Eq.trans (b := t0) (e0 k) (by kernel_rfl))
end law25_alive
def s_law25_alive (a : Unit) : Option ((Bool) × (Unit)) := law25_alive.p0 (fuel)
noncomputable def F_law25_alive : FSpec cx.toNm := { ps := [], nres := 1, rt := .bool, rm := .ro, f := s_law25_alive }
theorem w_law25_alive (a : Unit) : runOf (S := cx) law25_alive.E law25_alive.h (fuel) Try.f17 F_law25_alive.ps F_law25_alive.rt F_law25_alive.rm a = F_law25_alive.f a := Eq.trans (b := law25_alive.u0 (fuel)) (by kernel_rfl) (Eq.trans (b := law25_alive.p0 (fuel)) (law25_alive.o0 (fuel)) (by kernel_rfl))
theorem ok_law25_alive : FnOk Try.prog F_law25_alive 17 := fn_of (hn := law25_alive.h) (E := law25_alive.E) cxOk (tysT _) (fs_cons ok_marks_Move (fs_cons ok_marks_Set (fs_cons ok_marks_Place (fs_cons ok_marks_Push (fs_cons ok_marks_Top fs_nil))))) follows Try.func17 (by kernel_rfl) (fun a r h => ⟨fuel, Eq.trans (w_law25_alive a) h⟩)
namespace law25_MarksOrder
noncomputable def E : Env cx := { tys := tys, fs := fsOf [(17, F_law25_alive), (18, F_law04_Great), (19, F_ref04_Check), (20, F_marks_Move)] }
abbrev R := Option ((Bool) × (Unit))
abbrev C := Exit → ST cx → R
noncomputable def b : Code := bodyC Try.f3
noncomputable def h : Hint := { vs := [0, 1, 2, 3, 8, 9], nil := [], cuts := [(4, ([1, 2, 3, 39], []), ([1, 2, 3], [])), (5, ([1, 2, 3], []), ([1, 2, 3], []))], ret := ([8], [9]), ords := [] }
noncomputable def K0 : C := fin (S := cx) E Try.f3.results.toList .bool .ro [] []
noncomputable def c0 : Code := subC b [1]
noncomputable def K1 (k : Nat) : C := outD h c0 K0
noncomputable def K2 (k : Nat) : C := seqC E h k c0 K0
noncomputable def c1 : Code := subC b [1, 1]
noncomputable def K3 (k : Nat) : C := outD h c1 (K1 k)
noncomputable def K4 (k : Nat) : C := seqC E h k c1 (K1 k)
noncomputable def c2 : Code := subC b [1, 0, 1]
noncomputable def K5 (k : Nat) : C := outD h c2 (K4 k)
noncomputable def K6 (k : Nat) : C := seqC E h k c2 (K4 k)
noncomputable def c3 : Code := subC b [1, 0, 1, 0, 1]
noncomputable def K7 (k : Nat) : C := outD h c3 (K5 k)
noncomputable def K8 (k : Nat) : C := seqC E h k c3 (K5 k)
noncomputable def c4 : Code := subC b [1, 1, 1]
noncomputable def K9 (k : Nat) : C := outD h c4 (K3 k)
noncomputable def K10 (k : Nat) : C := seqC E h k c4 (K3 k)
noncomputable def c5 : Code := subC b [1, 1, 0, 1]
noncomputable def K11 (k : Nat) : C := outD h c5 (K10 k)
noncomputable def K12 (k : Nat) : C := seqC E h k c5 (K10 k)
noncomputable def c6 : Code := subC b [1, 1, 0, 1, 0, 1]
noncomputable def K13 (k : Nat) : C := outD h c6 (K11 k)
noncomputable def K14 (k : Nat) : C := seqC E h k c6 (K11 k)
noncomputable def c7 : Code := subC b [1, 1, 1, 1]
noncomputable def K15 (k : Nat) : C := outD h c7 (K9 k)
noncomputable def K16 (k : Nat) : C := seqC E h k c7 (K9 k)
noncomputable def c8 : Code := subC b [1, 1, 1, 1, 1]
noncomputable def K17 (k : Nat) : C := outD h c8 (K15 k)
noncomputable def K18 (k : Nat) : C := seqC E h k c8 (K15 k)
abbrev T2 := Int → Int → (List ((Int) × ((Int) × (List UInt8)))) → R
abbrev T1 := Int → Int → (List ((Int) × ((Int) × (List UInt8)))) → Bool → R
abbrev T0 := (List UInt8) → Int → Int → (List ((Int) × ((Int) × (List UInt8)))) → R
abbrev s2 : Int → Int → (List ((Int) × ((Int) × (List UInt8)))) → ST cx := fun (x1 x2 : Int) (x3 : List ((Int) × ((Int) × (List UInt8)))) => ({ vars := [(1, .v (.int .i64) .ro x1), (2, .v (.int .i64) .ro x2), (3, .v (.slice 41 (.agg (.pair (.int .i64) (.pair (.int .i64) .str)))) .ro x3)], scr := [], mems := [] } : ST cx)
noncomputable def u2 (k : Nat) : T2 := fun (x1 x2 : Int) (x3 : List ((Int) × ((Int) × (List UInt8)))) => uK (run E h k c4) (s2 x1 x2 x3) (K9 k)
noncomputable abbrev l2 (k : Nat) : T2 := fun (x1 x2 : Int) (x3 : List ((Int) × ((Int) × (List UInt8)))) => cutK (run E h k c4) (s2 x1 x2 x3) (K9 k)
abbrev s1 : Int → Int → (List ((Int) × ((Int) × (List UInt8)))) → Bool → ST cx := fun (x1 x2 : Int) (x3 : List ((Int) × ((Int) × (List UInt8)))) (x39 : Bool) => ({ vars := [(1, .v (.int .i64) .ro x1), (2, .v (.int .i64) .ro x2), (3, .v (.slice 41 (.agg (.pair (.int .i64) (.pair (.int .i64) .str)))) .ro x3), (39, .v .bool .ro x39)], scr := [], mems := [] } : ST cx)
noncomputable def u1 (k : Nat) : T1 := fun (x1 x2 : Int) (x3 : List ((Int) × ((Int) × (List UInt8)))) (x39 : Bool) => uK (run E h k c5) (s1 x1 x2 x3 x39) (K11 k)
noncomputable abbrev l1 (k : Nat) : T1 := fun (x1 x2 : Int) (x3 : List ((Int) × ((Int) × (List UInt8)))) (x39 : Bool) => cutK (run E h k c5) (s1 x1 x2 x3 x39) (K11 k)
noncomputable def u0 (k : Nat) : T0 := fun (x0 : List UInt8) (x1 x2 : Int) (x3 : List ((Int) × ((Int) × (List UInt8)))) => runOf (S := cx) E h k Try.f3 [.val .str, .val (.int .i64), .val (.int .i64), .val (.slice 41 (.agg (.pair (.int .i64) (.pair (.int .i64) .str))))] .bool .ro (x0, x1, x2, x3, ())
def t2 : T2 := fun (x1 x2 : Int) (x3 : List ((Int) × ((Int) × (List UInt8)))) => 
  (bindR (s_marks_Move ((x2, (([([97] : List UInt8), ([98] : List UInt8)] : List (List UInt8)), (([x1, x2] : List (Int)), ([(x1, x2)] : List ((Int) × (Int)))))), (x3, ()))) fun r4 => (iteB (decide (((List.length r4.1.2.2.1 : Nat) : Int) = (2 : Int))) (iteB (decide (((List.length r4.1.2.2.2 : Nat) : Int) = (1 : Int))) (withinR (0 : Int) (List.length r4.1.2.2.1) fun q5 => (withinR (1 : Int) (List.length r4.1.2.2.1) fun q6 => (iteB (decide ((List.getD r4.1.2.2.1 q5 (0 : Int)) ≤ (List.getD r4.1.2.2.1 q6 (0 : Int)))) (withinR (1 : Int) (List.length r4.1.2.2.1) fun q7 => (iteB (decide ((List.getD r4.1.2.2.1 q7 (0 : Int)) ≤ r4.1.1)) (withinR (0 : Int) (List.length r4.1.2.2.2) fun q8 => (withinR (0 : Int) (List.length r4.1.2.2.2) fun q9 => (some ((decide ((List.getD r4.1.2.2.2 q8 ((0 : Int), (0 : Int))).1 ≤ (List.getD r4.1.2.2.2 q9 ((0 : Int), (0 : Int))).2)), ())))) (some (false, ())))) (some (false, ()))))) (some (false, ()))) (some (false, ()))))
theorem e2 (k : Nat) : u2 k = t2 := by kernel_rfl
theorem g2 (k : Nat) : l2 k = u2 k := funext fun _ => funext fun _ => funext fun _ => cut_u _ _ _
def p2 (k : Nat) : T2 := t2
theorem o2 (k : Nat) : l2 k = p2 k := (Eq.trans (b := u2 k) (g2 k) (Eq.trans (b := t2) (e2 k) (by kernel_rfl)))
def t1 (f2 : T2) : T1 := fun (x1 x2 : Int) (x3 : List ((Int) × ((Int) × (List UInt8)))) (x39 : Bool) => 
  (iteB x39 (some (true, ())) (f2 x1 x2 x3))
theorem e1 (k : Nat) : u1 k = t1 (l2 k) := by kernel_rfl
theorem g1 (k : Nat) : l1 k = u1 k := funext fun _ => funext fun _ => funext fun _ => funext fun _ => cut_u _ _ _
theorem d1 {x2 y2 : T2} (h2 : x2 = y2) : t1 x2 = t1 y2 := by subst h2; rfl
def p1 (k : Nat) : T1 := t1 (p2 k)
theorem o1 (k : Nat) : l1 k = p1 k := (Eq.trans (b := u1 k) (g1 k) (Eq.trans (b := t1 (l2 k)) (e1 k) (Eq.trans (b := t1 (p2 k)) (d1 (o2 k)) (by kernel_rfl))))
def t0 (f1 : T1) : T0 := fun (x0 : List UInt8) (x1 x2 : Int) (x3 : List ((Int) × ((Int) × (List UInt8)))) => 
  (bindR (s_law25_alive ()) fun r1 => (iteB (notB r1.1) (some (false, ())) (iteB (decide ((500 : Int) < ((List.length x0 : Nat) : Int))) (f1 x1 x2 x3 true) (bindR (s_law04_Great (x3, ())) fun r2 => (iteB r2.1 (f1 x1 x2 x3 true) (bindR (s_ref04_Check (x0, (x3, ()))) fun r3 => (iteB (!decide (r3.1 = (0 : Int))) (f1 x1 x2 x3 true) (iteB (decide (x1 < (0 : Int))) (f1 x1 x2 x3 true) (iteB (decide (x2 < x1)) (f1 x1 x2 x3 true) (f1 x1 x2 x3 (decide (((List.length x0 : Nat) : Int) < x2))))))))))))
theorem e0 (k : Nat) : u0 k = t0 (l1 k) := by kernel_rfl
theorem d0 {x1 y1 : T1} (h1 : x1 = y1) : t0 x1 = t0 y1 := by subst h1; rfl
def p0 (k : Nat) : T0 := t0 (p1 k)
theorem o0 (k : Nat) : u0 k = p0 k := (Eq.trans (b := t0 (l1 k)) (e0 k) (Eq.trans (b := t0 (p1 k)) (d0 (o1 k)) (by kernel_rfl)))
end law25_MarksOrder
def s_law25_MarksOrder (a : (List UInt8) × ((Int) × ((Int) × ((List ((Int) × ((Int) × (List UInt8)))) × (Unit))))) : Option ((Bool) × (Unit)) := law25_MarksOrder.p0 (fuel) a.1 a.2.1 a.2.2.1 a.2.2.2.1
noncomputable def F_law25_MarksOrder : FSpec cx.toNm := { ps := [.val .str, .val (.int .i64), .val (.int .i64), .val (.slice 41 (.agg (.pair (.int .i64) (.pair (.int .i64) .str))))], nres := 1, rt := .bool, rm := .ro, f := s_law25_MarksOrder }
theorem w_law25_MarksOrder (a : (List UInt8) × ((Int) × ((Int) × ((List ((Int) × ((Int) × (List UInt8)))) × (Unit))))) : runOf (S := cx) law25_MarksOrder.E law25_MarksOrder.h (fuel) Try.f3 F_law25_MarksOrder.ps F_law25_MarksOrder.rt F_law25_MarksOrder.rm a = F_law25_MarksOrder.f a := Eq.trans (b := law25_MarksOrder.u0 (fuel) a.1 a.2.1 a.2.2.1 a.2.2.2.1) (by kernel_rfl) (Eq.trans (b := law25_MarksOrder.p0 (fuel) a.1 a.2.1 a.2.2.1 a.2.2.2.1) (congrFun (congrFun (congrFun (congrFun (law25_MarksOrder.o0 (fuel)) a.1) a.2.1) a.2.2.1) a.2.2.2.1) (by kernel_rfl))
theorem ok_law25_MarksOrder : FnOk Try.prog F_law25_MarksOrder 3 := fn_of (hn := law25_MarksOrder.h) (E := law25_MarksOrder.E) cxOk (tysT _) (fs_cons ok_law25_alive (fs_cons ok_law04_Great (fs_cons ok_ref04_Check (fs_cons ok_marks_Move fs_nil)))) follows Try.func3 (by kernel_rfl) (fun a r h => ⟨fuel, Eq.trans (w_law25_MarksOrder a) h⟩)
end
end Go.Proofs.Ytdifekkamjoepaa.Vm.Rp
