/- What the functions of the layer compute, as plain functions; that they do. -/
import Derived.Test.YtkaihgejdglemaaVm2
import Derived.Test.YtkaihgejdglemaaChecked
import Derived.KernelRfl
namespace Go.Proofs.Ytkaihgejdglemaa.Vm.Rn
open Go Go.Proofs.Ytkaihgejdglemaa.Vm Go.Proofs
set_option linter.unusedVariables false
set_option maxRecDepth 100000
noncomputable def cx : Cx := { N := fun _ => Unit, body := fun _ => .unit, nsz := fun _ => 0, out := fun _ _ => (), pk := fun _ _ => (), dflt := fun _ => () }
theorem cxOk : cx.Ok := fun _ => rfl
noncomputable def tys : List (Nat × Ty) := [(3, (.int .i64)), (4, .bool), (5, (.int .u8)), (9, .str), (30, (.slice 3 (.int .i64))), (34, (.agg (.pair (.int .i64) (.pair (.int .i64) (.int .i64))))), (41, (.agg .str)), (38, (.slice 5 (.int .u8))), (37, (.int .u64))]
theorem tysT (l : List (Nat × FSpec cx.toNm)) : TysOk (S := cx) Try.prog { tys := tys, fs := fsOf l } := tysOk (by kernel_rfl)
theorem follows : Try.prog.follows .mixedOrders = true := by kernel_rfl
namespace shapeOf
noncomputable def E : Env cx := { tys := tys, fs := fsOf [] }
abbrev R := Option (((Int) × ((Int) × (Int))) × (Unit))
abbrev C := Exit → ST cx → R
noncomputable def b : Code := bodyC Try.f22
noncomputable def h : Hint := { vs := [0, 2], nil := [], cuts := [(4, ([0, 2, 7], [2]), ([2], [2])), (6, ([0, 2, 15], [2]), ([2], [2])), (8, ([2, 23], [2]), ([2], [2])), (9, ([2], [2]), ([2], [2]))], ret := ([2], [2]), ords := [] }
noncomputable def K0 : C := fin (S := cx) E Try.f22.results.toList (.agg (.pair (.int .i64) (.pair (.int .i64) (.int .i64)))) .ro [] []
noncomputable def c0 : Code := subC b [1]
noncomputable def K1 (k : Nat) : C := outD h c0 K0
noncomputable def K2 (k : Nat) : C := seqC E h k c0 K0
noncomputable def c1 : Code := subC b [1, 1]
noncomputable def K3 (k : Nat) : C := outD h c1 (K1 k)
noncomputable def K4 (k : Nat) : C := seqC E h k c1 (K1 k)
noncomputable def K5 (k : Nat) : C := blockK 0 (K4 k)
noncomputable def c2 : Code := subC b [1, 0, 0, 1]
noncomputable def K6 (k : Nat) : C := outD h c2 (K5 k)
noncomputable def K7 (k : Nat) : C := seqC E h k c2 (K5 k)
noncomputable def c3 : Code := subC b [1, 0, 0, 1, 0, 1]
noncomputable def K8 (k : Nat) : C := outD h c3 (K6 k)
noncomputable def K9 (k : Nat) : C := seqC E h k c3 (K6 k)
noncomputable def c4 : Code := subC b [1, 0, 0, 1, 1, 1]
noncomputable def K10 (k : Nat) : C := outD h c4 (K6 k)
noncomputable def K11 (k : Nat) : C := seqC E h k c4 (K6 k)
noncomputable def c5 : Code := subC b [1, 0, 0, 1, 1, 1, 0, 1]
noncomputable def K12 (k : Nat) : C := outD h c5 (K10 k)
noncomputable def K13 (k : Nat) : C := seqC E h k c5 (K10 k)
noncomputable def c6 : Code := subC b [1, 0, 0, 1, 1, 1, 1, 1]
noncomputable def K14 (k : Nat) : C := outD h c6 (K10 k)
noncomputable def K15 (k : Nat) : C := seqC E h k c6 (K10 k)
noncomputable def c7 : Code := subC b [1, 0, 0, 1, 1, 1, 1, 1, 0, 1]
noncomputable def K16 (k : Nat) : C := outD h c7 (K14 k)
noncomputable def K17 (k : Nat) : C := seqC E h k c7 (K14 k)
noncomputable def c8 : Code := subC b [1, 0, 0, 1, 1, 1, 1, 1, 1, 1]
noncomputable def K18 (k : Nat) : C := outD h c8 (K14 k)
noncomputable def K19 (k : Nat) : C := seqC E h k c8 (K14 k)
noncomputable def c9 : Code := subC b [1, 0, 0, 1, 1, 1, 1, 1, 1, 1, 0, 1]
noncomputable def K20 (k : Nat) : C := outD h c9 (K18 k)
noncomputable def K21 (k : Nat) : C := seqC E h k c9 (K18 k)
noncomputable def c10 : Code := subC b [1, 1, 1]
noncomputable def K22 (k : Nat) : C := outD h c10 (K3 k)
noncomputable def K23 (k : Nat) : C := seqC E h k c10 (K3 k)
abbrev T4 := ((Int) × ((Int) × (Int))) → R
abbrev T3 := Bool → ((Int) × ((Int) × (Int))) → R
abbrev T2 := Int → Bool → ((Int) × ((Int) × (Int))) → R
abbrev T1 := Int → Bool → ((Int) × ((Int) × (Int))) → R
abbrev T0 := Int → R
abbrev s4 : ((Int) × ((Int) × (Int))) → ST cx := fun (m2 : (Int) × ((Int) × (Int))) => ({ vars := [(2, .addr (.mem 2) [])], scr := [], mems := [(2, ⟨(.agg (.pair (.int .i64) (.pair (.int .i64) (.int .i64)))), .ro, m2⟩)] } : ST cx)
noncomputable def u4 (k : Nat) : T4 := fun (m2 : (Int) × ((Int) × (Int))) => runP E h k c1 (s4 m2) (K3 k)
noncomputable abbrev l4 (k : Nat) : T4 := fun (m2 : (Int) × ((Int) × (Int))) => cutK (run E h k c1) (s4 m2) (K3 k)
abbrev s3 : Bool → ((Int) × ((Int) × (Int))) → ST cx := fun (x23 : Bool) (m2 : (Int) × ((Int) × (Int))) => ({ vars := [(2, .addr (.mem 2) []), (23, .v .bool .ro x23)], scr := [], mems := [(2, ⟨(.agg (.pair (.int .i64) (.pair (.int .i64) (.int .i64)))), .ro, m2⟩)] } : ST cx)
noncomputable def u3 (k : Nat) : T3 := fun (x23 : Bool) (m2 : (Int) × ((Int) × (Int))) => runP E h k c8 (s3 x23 m2) (K18 k)
noncomputable abbrev l3 (k : Nat) : T3 := fun (x23 : Bool) (m2 : (Int) × ((Int) × (Int))) => cutK (run E h k c8) (s3 x23 m2) (K18 k)
abbrev s2 : Int → Bool → ((Int) × ((Int) × (Int))) → ST cx := fun (x0 : Int) (x15 : Bool) (m2 : (Int) × ((Int) × (Int))) => ({ vars := [(0, .v (.int .u8) .ro x0), (2, .addr (.mem 2) []), (15, .v .bool .ro x15)], scr := [], mems := [(2, ⟨(.agg (.pair (.int .i64) (.pair (.int .i64) (.int .i64)))), .ro, m2⟩)] } : ST cx)
noncomputable def u2 (k : Nat) : T2 := fun (x0 : Int) (x15 : Bool) (m2 : (Int) × ((Int) × (Int))) => runP E h k c6 (s2 x0 x15 m2) (K14 k)
noncomputable abbrev l2 (k : Nat) : T2 := fun (x0 : Int) (x15 : Bool) (m2 : (Int) × ((Int) × (Int))) => cutK (run E h k c6) (s2 x0 x15 m2) (K14 k)
abbrev s1 : Int → Bool → ((Int) × ((Int) × (Int))) → ST cx := fun (x0 : Int) (x7 : Bool) (m2 : (Int) × ((Int) × (Int))) => ({ vars := [(0, .v (.int .u8) .ro x0), (2, .addr (.mem 2) []), (7, .v .bool .ro x7)], scr := [], mems := [(2, ⟨(.agg (.pair (.int .i64) (.pair (.int .i64) (.int .i64)))), .ro, m2⟩)] } : ST cx)
noncomputable def u1 (k : Nat) : T1 := fun (x0 : Int) (x7 : Bool) (m2 : (Int) × ((Int) × (Int))) => runP E h k c4 (s1 x0 x7 m2) (K10 k)
noncomputable abbrev l1 (k : Nat) : T1 := fun (x0 : Int) (x7 : Bool) (m2 : (Int) × ((Int) × (Int))) => cutK (run E h k c4) (s1 x0 x7 m2) (K10 k)
noncomputable def u0 (k : Nat) : T0 := fun (x0 : Int) => runOf (S := cx) E h k Try.f22 [.val (.int .u8)] (.agg (.pair (.int .i64) (.pair (.int .i64) (.int .i64)))) .ro (x0, ())
def t4 : T4 := fun (m2 : (Int) × ((Int) × (Int))) => 
  (some (((0 : Int), ((0 : Int), (0 : Int))), ()))
theorem e4 (k : Nat) : u4 k = t4 := by kernel_rfl
def p4 (k : Nat) : T4 := t4
theorem o4 (k : Nat) : l4 k = p4 k := by rw [show l4 k = u4 k from by kernel_rfl, e4]; rfl
def t3 (f4 : T4) : T3 := fun (x23 : Bool) (m2 : (Int) × ((Int) × (Int))) => 
  (iteB x23 (some (((4 : Int), ((240 : Int), (65536 : Int))), ())) (f4 m2))
theorem e3 (k : Nat) : u3 k = t3 (l4 k) := by kernel_rfl
def p3 (k : Nat) : T3 := t3 (p4 k)
theorem o3 (k : Nat) : l3 k = p3 k := by rw [show l3 k = u3 k from by kernel_rfl, e3, (o4 k)]; rfl
def t2 (f3 : T3) : T2 := fun (x0 : Int) (x15 : Bool) (m2 : (Int) × ((Int) × (Int))) => 
  (iteB x15 (some (((3 : Int), ((224 : Int), (2048 : Int))), ())) (iteB (decide ((240 : Int) ≤ x0)) (f3 (decide (x0 < (248 : Int))) m2) (f3 false m2)))
theorem e2 (k : Nat) : u2 k = t2 (l3 k) := by kernel_rfl
def p2 (k : Nat) : T2 := t2 (p3 k)
theorem o2 (k : Nat) : l2 k = p2 k := by rw [show l2 k = u2 k from by kernel_rfl, e2, (o3 k)]; rfl
def t1 (f2 : T2) : T1 := fun (x0 : Int) (x7 : Bool) (m2 : (Int) × ((Int) × (Int))) => 
  (iteB x7 (some (((2 : Int), ((192 : Int), (128 : Int))), ())) (iteB (decide ((224 : Int) ≤ x0)) (f2 x0 (decide (x0 < (240 : Int))) m2) (f2 x0 false m2)))
theorem e1 (k : Nat) : u1 k = t1 (l2 k) := by kernel_rfl
def p1 (k : Nat) : T1 := t1 (p2 k)
theorem o1 (k : Nat) : l1 k = p1 k := by rw [show l1 k = u1 k from by kernel_rfl, e1, (o2 k)]; rfl
def t0 (f1 : T1) : T0 := fun (x0 : Int) => 
  (iteB (decide (x0 < (128 : Int))) (some (((1 : Int), ((0 : Int), (0 : Int))), ())) (iteB (decide ((192 : Int) ≤ x0)) (f1 x0 (decide (x0 < (224 : Int))) ((0 : Int), ((0 : Int), (0 : Int)))) (f1 x0 false ((0 : Int), ((0 : Int), (0 : Int))))))
theorem e0 (k : Nat) : u0 k = t0 (l1 k) := by kernel_rfl
def p0 (k : Nat) : T0 := t0 (p1 k)
theorem o0 (k : Nat) : u0 k = p0 k := by rw [e0, (o1 k)]; rfl
end shapeOf
def s_shapeOf (a : (Int) × (Unit)) : Option (((Int) × ((Int) × (Int))) × (Unit)) := shapeOf.p0 (0) a.1
noncomputable def F_shapeOf : FSpec cx.toNm := { ps := [.val (.int .u8)], nres := 1, rt := (.agg (.pair (.int .i64) (.pair (.int .i64) (.int .i64)))), rm := .ro, f := s_shapeOf }
theorem ok_shapeOf : FnOk Try.prog F_shapeOf 22 := fn_of (hn := shapeOf.h) (E := shapeOf.E) cxOk (tysT _) fs_nil follows Try.func22 (by kernel_rfl) (fun a r h => ⟨0, (congrFun (shapeOf.o0 (0)) a.1).trans h⟩)
namespace isFollower
noncomputable def E : Env cx := { tys := tys, fs := fsOf [] }
abbrev R := Option ((Bool) × (Unit))
abbrev C := Exit → ST cx → R
noncomputable def b : Code := bodyC Try.f23
noncomputable def h : Hint := { vs := [0, 2], nil := [], cuts := [], ret := ([2], []), ords := [] }
noncomputable def K0 : C := fin (S := cx) E Try.f23.results.toList .bool .ro [] []
noncomputable def c0 : Code := subC b [1]
noncomputable def K1 (k : Nat) : C := outD h c0 K0
noncomputable def K2 (k : Nat) : C := seqC E h k c0 K0
noncomputable def c1 : Code := subC b [1, 1]
noncomputable def K3 (k : Nat) : C := outD h c1 (K1 k)
noncomputable def K4 (k : Nat) : C := seqC E h k c1 (K1 k)
abbrev T0 := Int → R
noncomputable def u0 (k : Nat) : T0 := fun (x0 : Int) => runOf (S := cx) E h k Try.f23 [.val (.int .u8)] .bool .ro (x0, ())
def t0 : T0 := fun (x0 : Int) => 
  (some ((decide ((bitI .and .u8 x0 (192 : Int)) = (128 : Int))), ()))
theorem e0 (k : Nat) : u0 k = t0 := by kernel_rfl
def p0 (k : Nat) : T0 := t0
theorem o0 (k : Nat) : u0 k = p0 k := by rw [e0]; rfl
end isFollower
def s_isFollower (a : (Int) × (Unit)) : Option ((Bool) × (Unit)) := isFollower.p0 (0) a.1
noncomputable def F_isFollower : FSpec cx.toNm := { ps := [.val (.int .u8)], nres := 1, rt := .bool, rm := .ro, f := s_isFollower }
theorem ok_isFollower : FnOk Try.prog F_isFollower 23 := fn_of (hn := isFollower.h) (E := isFollower.E) cxOk (tysT _) fs_nil follows Try.func23 (by kernel_rfl) (fun a r h => ⟨0, (congrFun (isFollower.o0 (0)) a.1).trans h⟩)
namespace isSign
noncomputable def E : Env cx := { tys := tys, fs := fsOf [] }
abbrev R := Option ((Bool) × (Unit))
abbrev C := Exit → ST cx → R
noncomputable def b : Code := bodyC Try.f24
noncomputable def h : Hint := { vs := [0, 2], nil := [], cuts := [], ret := ([2], []), ords := [] }
noncomputable def K0 : C := fin (S := cx) E Try.f24.results.toList .bool .ro [] []
noncomputable def c0 : Code := subC b [1]
noncomputable def K1 (k : Nat) : C := outD h c0 K0
noncomputable def K2 (k : Nat) : C := seqC E h k c0 K0
noncomputable def c1 : Code := subC b [1, 1]
noncomputable def K3 (k : Nat) : C := outD h c1 (K1 k)
noncomputable def K4 (k : Nat) : C := seqC E h k c1 (K1 k)
abbrev T0 := Int → R
noncomputable def u0 (k : Nat) : T0 := fun (x0 : Int) => runOf (S := cx) E h k Try.f24 [.val (.int .i64)] .bool .ro (x0, ())
def t0 : T0 := fun (x0 : Int) => 
  (iteB (decide ((0 : Int) ≤ x0)) (iteB (decide (x0 < (1114112 : Int))) (iteB (decide (x0 < (55296 : Int))) (some (true, ())) (some ((decide ((57343 : Int) < x0)), ()))) (some (false, ()))) (some (false, ())))
theorem e0 (k : Nat) : u0 k = t0 := by kernel_rfl
def p0 (k : Nat) : T0 := t0
theorem o0 (k : Nat) : u0 k = p0 k := by rw [e0]; rfl
end isSign
def s_isSign (a : (Int) × (Unit)) : Option ((Bool) × (Unit)) := isSign.p0 (0) a.1
noncomputable def F_isSign : FSpec cx.toNm := { ps := [.val (.int .i64)], nres := 1, rt := .bool, rm := .ro, f := s_isSign }
theorem ok_isSign : FnOk Try.prog F_isSign 24 := fn_of (hn := isSign.h) (E := isSign.E) cxOk (tysT _) fs_nil follows Try.func24 (by kernel_rfl) (fun a r h => ⟨0, (congrFun (isSign.o0 (0)) a.1).trans h⟩)
namespace first
noncomputable def E : Env cx := { tys := tys, fs := fsOf [(22, F_shapeOf), (23, F_isFollower), (24, F_isSign)] }
abbrev R := Option (((Int) × (Int)) × (Unit))
abbrev C := Exit → ST cx → R
noncomputable def b : Code := bodyC Try.f8
noncomputable def h : Hint := { vs := [0, 2, 3, 4, 5, 6], nil := [], cuts := [(5, ([0, 4, 21], [4]), ([0, 4], [4])), (6, ([0, 4], [4]), ([0, 4], [4])), (8, ([0, 4, 5, 6], [4]), ([4, 5], [4])), (13, ([4, 5], [4]), ([4, 5], [4])), (14, ([4, 5, 55], [4]), ([4, 5], [4])), (15, ([4, 5], [4]), ([4, 5], [4]))], ret := ([2, 3], [4]), ords := [] }
noncomputable def K0 : C := fin (S := cx) E Try.f8.results.toList (.pair (.int .i64) (.int .i64)) .ro [] []
noncomputable def c0 : Code := subC b [1]
noncomputable def K1 (k : Nat) : C := outD h c0 K0
noncomputable def K2 (k : Nat) : C := seqC E h k c0 K0
noncomputable def c1 : Code := subC b [1, 1]
noncomputable def K3 (k : Nat) : C := outD h c1 (K1 k)
noncomputable def K4 (k : Nat) : C := seqC E h k c1 (K1 k)
noncomputable def c2 : Code := subC b [1, 0, 1]
noncomputable def K5 (k : Nat) : C := outD h c2 (K4 k)
noncomputable def K6 (k : Nat) : C := seqC E h k c2 (K4 k)
noncomputable def c3 : Code := subC b [1, 0, 1, 0, 1]
noncomputable def K7 (k : Nat) : C := outD h c3 (K5 k)
noncomputable def K8 (k : Nat) : C := seqC E h k c3 (K5 k)
noncomputable def c4 : Code := subC b [1, 1, 1]
noncomputable def K9 (k : Nat) : C := outD h c4 (K3 k)
noncomputable def K10 (k : Nat) : C := seqC E h k c4 (K3 k)
noncomputable def c5 : Code := subC b [1, 1, 1, 1]
noncomputable def K11 (k : Nat) : C := outD h c5 (K9 k)
noncomputable def K12 (k : Nat) : C := seqC E h k c5 (K9 k)
noncomputable def c6 : Code := subC b [1, 1, 1, 0, 1]
noncomputable def K13 (k : Nat) : C := outD h c6 (K12 k)
noncomputable def K14 (k : Nat) : C := seqC E h k c6 (K12 k)
noncomputable def c7 : Code := subC b [1, 1, 1, 0, 1, 0, 1]
noncomputable def K15 (k : Nat) : C := outD h c7 (K13 k)
noncomputable def K16 (k : Nat) : C := seqC E h k c7 (K13 k)
noncomputable def c8 : Code := subC b [1, 1, 1, 1, 1]
noncomputable def K17 (k : Nat) : C := outD h c8 (K11 k)
noncomputable def K18 (k : Nat) : C := seqC E h k c8 (K11 k)
noncomputable def c9 : Code := subC b [1, 1, 1, 1, 1, 1]
noncomputable def K19 (k : Nat) : C := outD h c9 (K17 k)
noncomputable def K20 (k : Nat) : C := seqC E h k c9 (K17 k)
noncomputable def c10 : Code := subC b [1, 1, 1, 1, 1, 0, 1]
noncomputable def K21 (k : Nat) : C := outD h c10 (K20 k)
noncomputable def K22 (k : Nat) : C := seqC E h k c10 (K20 k)
noncomputable def K23 (k : Nat) : C := blockK 0 (K21 k)
noncomputable def c11 : Code := subC b [1, 1, 1, 1, 1, 0, 1, 0, 0]
noncomputable def K24 (k n3 : Nat) : C := loopD E h k c11 (K23 k) n3
noncomputable def c12 : Code := subC b [1, 1, 1, 1, 1, 0, 1, 0, 0, 1]
noncomputable def K25 (k n3 : Nat) : C := outD h c12 (K24 k n3)
noncomputable def K26 (k n3 : Nat) : C := seqC E h k c12 (K24 k n3)
noncomputable def c13 : Code := subC b [1, 1, 1, 1, 1, 0, 1, 0, 0, 0, 1]
noncomputable def K27 (k n3 : Nat) : C := outD h c13 (K26 k n3)
noncomputable def K28 (k n3 : Nat) : C := seqC E h k c13 (K26 k n3)
noncomputable def c14 : Code := subC b [1, 1, 1, 1, 1, 0, 1, 0, 0, 1, 1]
noncomputable def K29 (k n3 : Nat) : C := outD h c14 (K25 k n3)
noncomputable def K30 (k n3 : Nat) : C := seqC E h k c14 (K25 k n3)
noncomputable def K31 (k n3 : Nat) : C := blockK 1 (K30 k n3)
noncomputable def c15 : Code := subC b [1, 1, 1, 1, 1, 0, 1, 0, 0, 1, 0, 0, 1]
noncomputable def K32 (k n3 : Nat) : C := outD h c15 (K31 k n3)
noncomputable def K33 (k n3 : Nat) : C := seqC E h k c15 (K31 k n3)
noncomputable def c16 : Code := subC b [1, 1, 1, 1, 1, 0, 1, 0, 0, 1, 0, 0, 0, 1]
noncomputable def K34 (k n3 : Nat) : C := outD h c16 (K33 k n3)
noncomputable def K35 (k n3 : Nat) : C := seqC E h k c16 (K33 k n3)
noncomputable def c17 : Code := subC b [1, 1, 1, 1, 1, 0, 1, 0, 0, 1, 0, 0, 0, 1, 0, 1]
noncomputable def K36 (k n3 : Nat) : C := outD h c17 (K34 k n3)
noncomputable def K37 (k n3 : Nat) : C := seqC E h k c17 (K34 k n3)
noncomputable def c18 : Code := subC b [1, 1, 1, 1, 1, 1, 1]
noncomputable def K38 (k : Nat) : C := outD h c18 (K19 k)
noncomputable def K39 (k : Nat) : C := seqC E h k c18 (K19 k)
noncomputable def c19 : Code := subC b [1, 1, 1, 1, 1, 1, 0, 1]
noncomputable def K40 (k : Nat) : C := outD h c19 (K39 k)
noncomputable def K41 (k : Nat) : C := seqC E h k c19 (K39 k)
noncomputable def c20 : Code := subC b [1, 1, 1, 1, 1, 1, 0, 1, 0, 1]
noncomputable def K42 (k : Nat) : C := outD h c20 (K40 k)
noncomputable def K43 (k : Nat) : C := seqC E h k c20 (K40 k)
noncomputable def c21 : Code := subC b [1, 1, 1, 1, 1, 1, 1, 1]
noncomputable def K44 (k : Nat) : C := outD h c21 (K38 k)
noncomputable def K45 (k : Nat) : C := seqC E h k c21 (K38 k)
abbrev T6 := Int → ((Int) × ((Int) × (Int))) → R
abbrev T5 := Int → Bool → ((Int) × ((Int) × (Int))) → R
abbrev T4 := Int → ((Int) × ((Int) × (Int))) → R
abbrev T3 := (List UInt8) → Int → Int → ((Int) × ((Int) × (Int))) → R
abbrev T2 := (List UInt8) → ((Int) × ((Int) × (Int))) → R
abbrev T1 := (List UInt8) → Bool → ((Int) × ((Int) × (Int))) → R
abbrev T0 := (List UInt8) → R
abbrev s6 : Int → ((Int) × ((Int) × (Int))) → ST cx := fun (x5 : Int) (m4 : (Int) × ((Int) × (Int))) => ({ vars := [(4, .addr (.mem 4) []), (5, .v (.int .i64) .ro x5)], scr := [], mems := [(4, ⟨(.agg (.pair (.int .i64) (.pair (.int .i64) (.int .i64)))), .ro, m4⟩)] } : ST cx)
noncomputable def u6 (k : Nat) : T6 := fun (x5 : Int) (m4 : (Int) × ((Int) × (Int))) => runP E h k c18 (s6 x5 m4) (K38 k)
noncomputable abbrev l6 (k : Nat) : T6 := fun (x5 : Int) (m4 : (Int) × ((Int) × (Int))) => cutK (run E h k c18) (s6 x5 m4) (K38 k)
abbrev s5 : Int → Bool → ((Int) × ((Int) × (Int))) → ST cx := fun (x5 : Int) (x55 : Bool) (m4 : (Int) × ((Int) × (Int))) => ({ vars := [(4, .addr (.mem 4) []), (5, .v (.int .i64) .ro x5), (55, .v .bool .ro x55)], scr := [], mems := [(4, ⟨(.agg (.pair (.int .i64) (.pair (.int .i64) (.int .i64)))), .ro, m4⟩)] } : ST cx)
noncomputable def u5 (k : Nat) : T5 := fun (x5 : Int) (x55 : Bool) (m4 : (Int) × ((Int) × (Int))) => runP E h k c19 (s5 x5 x55 m4) (K40 k)
noncomputable abbrev l5 (k : Nat) : T5 := fun (x5 : Int) (x55 : Bool) (m4 : (Int) × ((Int) × (Int))) => cutK (run E h k c19) (s5 x5 x55 m4) (K40 k)
abbrev s4 : Int → ((Int) × ((Int) × (Int))) → ST cx := fun (x5 : Int) (m4 : (Int) × ((Int) × (Int))) => ({ vars := [(4, .addr (.mem 4) []), (5, .v (.int .i64) .ro x5)], scr := [], mems := [(4, ⟨(.agg (.pair (.int .i64) (.pair (.int .i64) (.int .i64)))), .ro, m4⟩)] } : ST cx)
noncomputable def u4 (k : Nat) : T4 := fun (x5 : Int) (m4 : (Int) × ((Int) × (Int))) => runP E h k c9 (s4 x5 m4) (K19 k)
noncomputable abbrev l4 (k : Nat) : T4 := fun (x5 : Int) (m4 : (Int) × ((Int) × (Int))) => cutK (run E h k c9) (s4 x5 m4) (K19 k)
abbrev s3 : (List UInt8) → Int → Int → ((Int) × ((Int) × (Int))) → ST cx := fun (x0 : List UInt8) (x5 x6 : Int) (m4 : (Int) × ((Int) × (Int))) => ({ vars := [(0, .v .str .ro x0), (4, .addr (.mem 4) []), (5, .v (.int .i64) .ro x5), (6, .v (.int .i64) .ro x6)], scr := [], mems := [(4, ⟨(.agg (.pair (.int .i64) (.pair (.int .i64) (.int .i64)))), .ro, m4⟩)] } : ST cx)
noncomputable def u3 (k n3 : Nat) : T3 := fun (x0 : List UInt8) (x5 x6 : Int) (m4 : (Int) × ((Int) × (Int))) => loopP E h k c11 (K23 k) n3 (s3 x0 x5 x6 m4)
noncomputable abbrev l3 (k n3 : Nat) : T3 := fun (x0 : List UInt8) (x5 x6 : Int) (m4 : (Int) × ((Int) × (Int))) => cutK (loopL E h k c11 (K23 k) n3) (s3 x0 x5 x6 m4) ()
abbrev s2 : (List UInt8) → ((Int) × ((Int) × (Int))) → ST cx := fun (x0 : List UInt8) (m4 : (Int) × ((Int) × (Int))) => ({ vars := [(0, .v .str .ro x0), (4, .addr (.mem 4) [])], scr := [], mems := [(4, ⟨(.agg (.pair (.int .i64) (.pair (.int .i64) (.int .i64)))), .ro, m4⟩)] } : ST cx)
noncomputable def u2 (k : Nat) : T2 := fun (x0 : List UInt8) (m4 : (Int) × ((Int) × (Int))) => runP E h k c5 (s2 x0 m4) (K11 k)
noncomputable abbrev l2 (k : Nat) : T2 := fun (x0 : List UInt8) (m4 : (Int) × ((Int) × (Int))) => cutK (run E h k c5) (s2 x0 m4) (K11 k)
abbrev s1 : (List UInt8) → Bool → ((Int) × ((Int) × (Int))) → ST cx := fun (x0 : List UInt8) (x21 : Bool) (m4 : (Int) × ((Int) × (Int))) => ({ vars := [(0, .v .str .ro x0), (4, .addr (.mem 4) []), (21, .v .bool .ro x21)], scr := [], mems := [(4, ⟨(.agg (.pair (.int .i64) (.pair (.int .i64) (.int .i64)))), .ro, m4⟩)] } : ST cx)
noncomputable def u1 (k : Nat) : T1 := fun (x0 : List UInt8) (x21 : Bool) (m4 : (Int) × ((Int) × (Int))) => runP E h k c6 (s1 x0 x21 m4) (K13 k)
noncomputable abbrev l1 (k : Nat) : T1 := fun (x0 : List UInt8) (x21 : Bool) (m4 : (Int) × ((Int) × (Int))) => cutK (run E h k c6) (s1 x0 x21 m4) (K13 k)
noncomputable def u0 (k : Nat) : T0 := fun (x0 : List UInt8) => runOf (S := cx) E h k Try.f8 [.val .str] (.pair (.int .i64) (.int .i64)) .ro (x0, ())
def t6 : T6 := fun (x5 : Int) (m4 : (Int) × ((Int) × (Int))) => 
  (some ((x5, m4.1), ()))
theorem e6 (k : Nat) : u6 k = t6 := by kernel_rfl
def p6 (k : Nat) : T6 := t6
theorem o6 (k : Nat) : l6 k = p6 k := by rw [show l6 k = u6 k from by kernel_rfl, e6]; rfl
def t5 (f6 : T6) : T5 := fun (x5 : Int) (x55 : Bool) (m4 : (Int) × ((Int) × (Int))) => 
  (iteB x55 (some (((-1 : Int), (0 : Int)), ())) (f6 x5 m4))
theorem e5 (k : Nat) : u5 k = t5 (l6 k) := by kernel_rfl
def p5 (k : Nat) : T5 := t5 (p6 k)
theorem o5 (k : Nat) : l5 k = p5 k := by rw [show l5 k = u5 k from by kernel_rfl, e5, (o6 k)]; rfl
def t4 (f5 : T5) : T4 := fun (x5 : Int) (m4 : (Int) × ((Int) × (Int))) => 
  (iteB (decide (x5 < m4.2.2)) (f5 x5 true m4) (bindR (s_isSign (x5, ())) fun r7 => (f5 x5 (notB r7.1) m4)))
theorem e4 (k : Nat) : u4 k = t4 (l5 k) := by kernel_rfl
def p4 (k : Nat) : T4 := t4 (p5 k)
theorem o4 (k : Nat) : l4 k = p4 k := by rw [show l4 k = u4 k from by kernel_rfl, e4, (o5 k)]; rfl
def t3 (f3 : T3) (f4 : T4) : T3 := fun (x0 : List UInt8) (x5 x6 : Int) (m4 : (Int) × ((Int) × (Int))) => 
  (iteB (decide (x6 < m4.1)) (withinR x6 (List.length x0) fun q4 => (bindR (s_isFollower ((byteAt x0 q4), ())) fun r5 => (iteB (notB r5.1) (some (((-1 : Int), (0 : Int)), ())) (withinR x6 (List.length x0) fun q6 => (f3 x0 (bitI .or .i64 (shlI .i64 x5 (6 : Int)) (w64 ((bitI .and .u8 (byteAt x0 q6) (63 : Int))))) (w64 (x6 + (1 : Int))) m4))))) (f4 x5 m4))
theorem e3 (k n3 : Nat) : u3 k (n3 + 1) = t3 (l3 k n3) (l4 k) := by kernel_rfl
def p3 (k : Nat) : Nat → T3
  | 0 => fun _ _ _ _ => none
  | n3 + 1 => t3 (p3 k n3) (p4 k)
theorem o3 (k : Nat) : ∀ n3, l3 k n3 = p3 k n3
  | 0 => rfl
  | n3 + 1 => by rw [show l3 k (n3 + 1) = u3 k (n3 + 1) from by kernel_rfl, e3, (o3 k n3), (o4 k)]; rfl
def t2 (f3 : T3) : T2 := fun (x0 : List UInt8) (m4 : (Int) × ((Int) × (Int))) => 
  (withinR (0 : Int) (List.length x0) fun q3 => (f3 x0 (w64 ((w64 ((byteAt x0 q3))) - m4.2.1)) (1 : Int) m4))
theorem e2 (k : Nat) : u2 k = t2 (l3 k k) := by kernel_rfl
def p2 (k : Nat) : T2 := t2 (p3 k k)
theorem o2 (k : Nat) : l2 k = p2 k := by rw [show l2 k = u2 k from by kernel_rfl, e2, (o3 k k)]; rfl
def t1 (f2 : T2) : T1 := fun (x0 : List UInt8) (x21 : Bool) (m4 : (Int) × ((Int) × (Int))) => 
  (iteB x21 (some (((-1 : Int), (0 : Int)), ())) (f2 x0 m4))
theorem e1 (k : Nat) : u1 k = t1 (l2 k) := by kernel_rfl
def p1 (k : Nat) : T1 := t1 (p2 k)
theorem o1 (k : Nat) : l1 k = p1 k := by rw [show l1 k = u1 k from by kernel_rfl, e1, (o2 k)]; rfl
def t0 (f1 : T1) : T0 := fun (x0 : List UInt8) => 
  (iteB (decide (x0 = ([] : List UInt8))) (some (((-1 : Int), (0 : Int)), ())) (withinR (0 : Int) (List.length x0) fun q1 => (bindR (s_shapeOf ((byteAt x0 q1), ())) fun r2 => (iteB (decide (r2.1.1 = (0 : Int))) (f1 x0 true r2.1) (f1 x0 (decide (((List.length x0 : Nat) : Int) < r2.1.1)) r2.1)))))
theorem e0 (k : Nat) : u0 k = t0 (l1 k) := by kernel_rfl
def p0 (k : Nat) : T0 := t0 (p1 k)
theorem o0 (k : Nat) : u0 k = p0 k := by rw [e0, (o1 k)]; rfl
end first
def s_first (a : (List UInt8) × (Unit)) : Option (((Int) × (Int)) × (Unit)) := first.p0 (10) a.1
noncomputable def F_first : FSpec cx.toNm := { ps := [.val .str], nres := 2, rt := (.pair (.int .i64) (.int .i64)), rm := .ro, f := s_first }
theorem ok_first : FnOk Try.prog F_first 8 := fn_of (hn := first.h) (E := first.E) cxOk (tysT _) (fs_cons ok_shapeOf (fs_cons ok_isFollower (fs_cons ok_isSign fs_nil))) follows Try.func8 (by kernel_rfl) (fun a r h => ⟨10, (congrFun (first.o0 (10)) a.1).trans h⟩)
namespace follower
noncomputable def E : Env cx := { tys := tys, fs := fsOf [] }
abbrev R := Option ((Bool) × (Unit))
abbrev C := Exit → ST cx → R
noncomputable def b : Code := bodyC Try.f26
noncomputable def h : Hint := { vs := [0, 2], nil := [], cuts := [], ret := ([2], []), ords := [] }
noncomputable def K0 : C := fin (S := cx) E Try.f26.results.toList .bool .ro [] []
noncomputable def c0 : Code := subC b [1]
noncomputable def K1 (k : Nat) : C := outD h c0 K0
noncomputable def K2 (k : Nat) : C := seqC E h k c0 K0
noncomputable def c1 : Code := subC b [1, 1]
noncomputable def K3 (k : Nat) : C := outD h c1 (K1 k)
noncomputable def K4 (k : Nat) : C := seqC E h k c1 (K1 k)
abbrev T0 := Int → R
noncomputable def u0 (k : Nat) : T0 := fun (x0 : Int) => runOf (S := cx) E h k Try.f26 [.val (.int .u8)] .bool .ro (x0, ())
def t0 : T0 := fun (x0 : Int) => 
  (iteB (decide ((128 : Int) ≤ x0)) (some ((decide (x0 ≤ (191 : Int))), ())) (some (false, ())))
theorem e0 (k : Nat) : u0 k = t0 := by kernel_rfl
def p0 (k : Nat) : T0 := t0
theorem o0 (k : Nat) : u0 k = p0 k := by rw [e0]; rfl
end follower
def s_follower (a : (Int) × (Unit)) : Option ((Bool) × (Unit)) := follower.p0 (0) a.1
noncomputable def F_follower : FSpec cx.toNm := { ps := [.val (.int .u8)], nres := 1, rt := .bool, rm := .ro, f := s_follower }
theorem ok_follower : FnOk Try.prog F_follower 26 := fn_of (hn := follower.h) (E := follower.E) cxOk (tysT _) fs_nil follows Try.func26 (by kernel_rfl) (fun a r h => ⟨0, (congrFun (follower.o0 (0)) a.1).trans h⟩)
namespace rsign
noncomputable def E : Env cx := { tys := tys, fs := fsOf [] }
abbrev R := Option ((Bool) × (Unit))
abbrev C := Exit → ST cx → R
noncomputable def b : Code := bodyC Try.f11
noncomputable def h : Hint := { vs := [0, 2], nil := [], cuts := [], ret := ([2], []), ords := [] }
noncomputable def K0 : C := fin (S := cx) E Try.f11.results.toList .bool .ro [] []
noncomputable def c0 : Code := subC b [1]
noncomputable def K1 (k : Nat) : C := outD h c0 K0
noncomputable def K2 (k : Nat) : C := seqC E h k c0 K0
noncomputable def c1 : Code := subC b [1, 1]
noncomputable def K3 (k : Nat) : C := outD h c1 (K1 k)
noncomputable def K4 (k : Nat) : C := seqC E h k c1 (K1 k)
abbrev T0 := Int → R
noncomputable def u0 (k : Nat) : T0 := fun (x0 : Int) => runOf (S := cx) E h k Try.f11 [.val (.int .i64)] .bool .ro (x0, ())
def t0 : T0 := fun (x0 : Int) => 
  (iteB (decide ((0 : Int) ≤ x0)) (iteB (decide (x0 < (1114112 : Int))) (iteB (decide ((55296 : Int) ≤ x0)) (some ((notB (decide (x0 ≤ (57343 : Int)))), ())) (some (true, ()))) (some (false, ()))) (some (false, ())))
theorem e0 (k : Nat) : u0 k = t0 := by kernel_rfl
def p0 (k : Nat) : T0 := t0
theorem o0 (k : Nat) : u0 k = p0 k := by rw [e0]; rfl
end rsign
def s_rsign (a : (Int) × (Unit)) : Option ((Bool) × (Unit)) := rsign.p0 (0) a.1
noncomputable def F_rsign : FSpec cx.toNm := { ps := [.val (.int .i64)], nres := 1, rt := .bool, rm := .ro, f := s_rsign }
theorem ok_rsign : FnOk Try.prog F_rsign 11 := fn_of (hn := rsign.h) (E := rsign.E) cxOk (tysT _) fs_nil follows Try.func11 (by kernel_rfl) (fun a r h => ⟨0, (congrFun (rsign.o0 (0)) a.1).trans h⟩)
namespace rbytes
noncomputable def E : Env cx := { tys := tys, fs := fsOf [(11, F_rsign)] }
abbrev R := Option ((List UInt8) × (Unit))
abbrev C := Exit → ST cx → R
noncomputable def b : Code := bodyC Try.f12
noncomputable def h : Hint := { vs := [0, 2], nil := [], cuts := [], ret := ([2], []), ords := [] }
noncomputable def K0 : C := fin (S := cx) E Try.f12.results.toList .str .ro [] []
noncomputable def c0 : Code := subC b [1]
noncomputable def K1 (k : Nat) : C := outD h c0 K0
noncomputable def K2 (k : Nat) : C := seqC E h k c0 K0
noncomputable def c1 : Code := subC b [1, 1]
noncomputable def K3 (k : Nat) : C := outD h c1 (K1 k)
noncomputable def K4 (k : Nat) : C := seqC E h k c1 (K1 k)
noncomputable def c2 : Code := subC b [1, 0, 1]
noncomputable def K5 (k : Nat) : C := outD h c2 (K4 k)
noncomputable def K6 (k : Nat) : C := seqC E h k c2 (K4 k)
noncomputable def c3 : Code := subC b [1, 0, 1, 0, 1]
noncomputable def K7 (k : Nat) : C := outD h c3 (K5 k)
noncomputable def K8 (k : Nat) : C := seqC E h k c3 (K5 k)
noncomputable def c4 : Code := subC b [1, 1, 1]
noncomputable def K9 (k : Nat) : C := outD h c4 (K3 k)
noncomputable def K10 (k : Nat) : C := seqC E h k c4 (K3 k)
noncomputable def c5 : Code := subC b [1, 1, 0, 1]
noncomputable def K11 (k : Nat) : C := outD h c5 (K10 k)
noncomputable def K12 (k : Nat) : C := seqC E h k c5 (K10 k)
noncomputable def c6 : Code := subC b [1, 1, 0, 1, 0, 1]
noncomputable def K13 (k : Nat) : C := outD h c6 (K11 k)
noncomputable def K14 (k : Nat) : C := seqC E h k c6 (K11 k)
noncomputable def c7 : Code := subC b [1, 1, 1, 1]
noncomputable def K15 (k : Nat) : C := outD h c7 (K9 k)
noncomputable def K16 (k : Nat) : C := seqC E h k c7 (K9 k)
noncomputable def c8 : Code := subC b [1, 1, 1, 0, 1]
noncomputable def K17 (k : Nat) : C := outD h c8 (K16 k)
noncomputable def K18 (k : Nat) : C := seqC E h k c8 (K16 k)
noncomputable def c9 : Code := subC b [1, 1, 1, 0, 1, 0, 1]
noncomputable def K19 (k : Nat) : C := outD h c9 (K17 k)
noncomputable def K20 (k : Nat) : C := seqC E h k c9 (K17 k)
noncomputable def c10 : Code := subC b [1, 1, 1, 1, 1]
noncomputable def K21 (k : Nat) : C := outD h c10 (K15 k)
noncomputable def K22 (k : Nat) : C := seqC E h k c10 (K15 k)
noncomputable def c11 : Code := subC b [1, 1, 1, 1, 0, 1]
noncomputable def K23 (k : Nat) : C := outD h c11 (K22 k)
noncomputable def K24 (k : Nat) : C := seqC E h k c11 (K22 k)
noncomputable def c12 : Code := subC b [1, 1, 1, 1, 0, 1, 0, 1]
noncomputable def K25 (k : Nat) : C := outD h c12 (K23 k)
noncomputable def K26 (k : Nat) : C := seqC E h k c12 (K23 k)
noncomputable def c13 : Code := subC b [1, 1, 1, 1, 1, 1]
noncomputable def K27 (k : Nat) : C := outD h c13 (K21 k)
noncomputable def K28 (k : Nat) : C := seqC E h k c13 (K21 k)
abbrev T0 := Int → R
noncomputable def u0 (k : Nat) : T0 := fun (x0 : Int) => runOf (S := cx) E h k Try.f12 [.val (.int .i64)] .str .ro (x0, ())
def t0 : T0 := fun (x0 : Int) => 
  (bindR (s_rsign (x0, ())) fun r1 => (iteB (notB r1.1) (some (([] : List UInt8), ())) (iteB (decide (x0 < (128 : Int))) (some ((bytesOf [(w8 (x0))]), ())) (iteB (decide (x0 < (2048 : Int))) (some ((bytesOf [(w8 ((w64 ((192 : Int) + (w64 (Int.tdiv x0 (64 : Int))))))), (w8 ((w64 ((128 : Int) + (Int.tmod x0 (64 : Int))))))]), ())) (iteB (decide (x0 < (65536 : Int))) (some ((bytesOf [(w8 ((w64 ((224 : Int) + (w64 (Int.tdiv x0 (4096 : Int))))))), (w8 ((w64 ((128 : Int) + (Int.tmod (w64 (Int.tdiv x0 (64 : Int))) (64 : Int)))))), (w8 ((w64 ((128 : Int) + (Int.tmod x0 (64 : Int))))))]), ())) (some ((bytesOf [(w8 ((w64 ((240 : Int) + (w64 (Int.tdiv x0 (262144 : Int))))))), (w8 ((w64 ((128 : Int) + (Int.tmod (w64 (Int.tdiv x0 (4096 : Int))) (64 : Int)))))), (w8 ((w64 ((128 : Int) + (Int.tmod (w64 (Int.tdiv x0 (64 : Int))) (64 : Int)))))), (w8 ((w64 ((128 : Int) + (Int.tmod x0 (64 : Int))))))]), ())))))))
theorem e0 (k : Nat) : u0 k = t0 := by kernel_rfl
def p0 (k : Nat) : T0 := t0
theorem o0 (k : Nat) : u0 k = p0 k := by rw [e0]; rfl
end rbytes
def s_rbytes (a : (Int) × (Unit)) : Option ((List UInt8) × (Unit)) := rbytes.p0 (0) a.1
noncomputable def F_rbytes : FSpec cx.toNm := { ps := [.val (.int .i64)], nres := 1, rt := .str, rm := .ro, f := s_rbytes }
theorem ok_rbytes : FnOk Try.prog F_rbytes 12 := fn_of (hn := rbytes.h) (E := rbytes.E) cxOk (tysT _) (fs_cons ok_rsign fs_nil) follows Try.func12 (by kernel_rfl) (fun a r h => ⟨0, (congrFun (rbytes.o0 (0)) a.1).trans h⟩)
namespace rfirst
noncomputable def E : Env cx := { tys := tys, fs := fsOf [(11, F_rsign), (12, F_rbytes)] }
abbrev R := Option (((Int) × (Int)) × (Unit))
abbrev C := Exit → ST cx → R
noncomputable def b : Code := bodyC Try.f9
noncomputable def h : Hint := { vs := [0, 2, 3, 4, 5, 6, 7, 8, 9], nil := [], cuts := [(2, ([0, 4], []), ([], [])), (3, ([0, 4], []), ([0, 4], [])), (4, ([0, 4], []), ([0, 4], [])), (6, ([0, 4, 5, 6], []), ([0, 4], [])), (9, ([0, 4], []), ([0, 4], [])), (15, ([0, 4, 5, 8, 9], []), ([0, 4, 5, 8], [])), (18, ([0, 4, 5, 8], []), ([0, 4], [])), (19, ([0, 4, 5, 74], []), ([0, 4], [])), (20, ([], []), ([], []))], ret := ([2, 3], []), ords := [(18, [0, 1, 2, 3, 4, 5, 6, 7, 9, 10, 11, 8, 12, 13])] }
noncomputable def K0 : C := fin (S := cx) E Try.f9.results.toList (.pair (.int .i64) (.int .i64)) .ro [] []
noncomputable def c0 : Code := subC b [1]
noncomputable def K1 (k : Nat) : C := outD h c0 K0
noncomputable def K2 (k : Nat) : C := seqC E h k c0 K0
noncomputable def c1 : Code := subC b [1, 1]
noncomputable def K3 (k : Nat) : C := outD h c1 (K1 k)
noncomputable def K4 (k : Nat) : C := seqC E h k c1 (K1 k)
noncomputable def c2 : Code := subC b [1, 0, 1]
noncomputable def K5 (k : Nat) : C := outD h c2 (K4 k)
noncomputable def K6 (k : Nat) : C := seqC E h k c2 (K4 k)
noncomputable def K7 (k : Nat) : C := blockK 0 (K5 k)
noncomputable def c3 : Code := subC b [1, 0, 1, 0, 0]
noncomputable def K8 (k n1 : Nat) : C := loopD E h k c3 (K7 k) n1
noncomputable def c4 : Code := subC b [1, 0, 1, 0, 0, 1]
noncomputable def K9 (k n1 : Nat) : C := outD h c4 (K8 k n1)
noncomputable def K10 (k n1 : Nat) : C := seqC E h k c4 (K8 k n1)
noncomputable def c5 : Code := subC b [1, 0, 1, 0, 0, 0, 1]
noncomputable def K11 (k n1 : Nat) : C := outD h c5 (K10 k n1)
noncomputable def K12 (k n1 : Nat) : C := seqC E h k c5 (K10 k n1)
noncomputable def c6 : Code := subC b [1, 0, 1, 0, 0, 1, 1]
noncomputable def K13 (k n1 : Nat) : C := outD h c6 (K9 k n1)
noncomputable def K14 (k n1 : Nat) : C := seqC E h k c6 (K9 k n1)
noncomputable def K15 (k n1 : Nat) : C := blockK 1 (K14 k n1)
noncomputable def c7 : Code := subC b [1, 0, 1, 0, 0, 1, 0, 0, 1]
noncomputable def K16 (k n1 : Nat) : C := outD h c7 (K15 k n1)
noncomputable def K17 (k n1 : Nat) : C := seqC E h k c7 (K15 k n1)
noncomputable def c8 : Code := subC b [1, 0, 1, 0, 0, 1, 0, 0, 1, 1]
noncomputable def K18 (k n1 : Nat) : C := outD h c8 (K16 k n1)
noncomputable def K19 (k n1 : Nat) : C := seqC E h k c8 (K16 k n1)
noncomputable def c9 : Code := subC b [1, 0, 1, 0, 0, 1, 0, 0, 1, 0, 1]
noncomputable def K20 (k n1 : Nat) : C := outD h c9 (K19 k n1)
noncomputable def K21 (k n1 : Nat) : C := seqC E h k c9 (K19 k n1)
noncomputable def K22 (k n1 : Nat) : C := blockK 2 (K20 k n1)
noncomputable def c10 : Code := subC b [1, 0, 1, 0, 0, 1, 0, 0, 1, 0, 1, 0, 0]
noncomputable def K23 (k n1 n4 : Nat) : C := loopD E h k c10 (K22 k n1) n4
noncomputable def c11 : Code := subC b [1, 0, 1, 0, 0, 1, 0, 0, 1, 0, 1, 0, 0, 1]
noncomputable def K24 (k n1 n4 : Nat) : C := outD h c11 (K23 k n1 n4)
noncomputable def K25 (k n1 n4 : Nat) : C := seqC E h k c11 (K23 k n1 n4)
noncomputable def c12 : Code := subC b [1, 0, 1, 0, 0, 1, 0, 0, 1, 0, 1, 0, 0, 0, 1]
noncomputable def K26 (k n1 n4 : Nat) : C := outD h c12 (K25 k n1 n4)
noncomputable def K27 (k n1 n4 : Nat) : C := seqC E h k c12 (K25 k n1 n4)
noncomputable def c13 : Code := subC b [1, 0, 1, 0, 0, 1, 0, 0, 1, 0, 1, 0, 0, 1, 1]
noncomputable def K28 (k n1 n4 : Nat) : C := outD h c13 (K24 k n1 n4)
noncomputable def K29 (k n1 n4 : Nat) : C := seqC E h k c13 (K24 k n1 n4)
noncomputable def K30 (k n1 n4 : Nat) : C := blockK 3 (K29 k n1 n4)
noncomputable def c14 : Code := subC b [1, 0, 1, 0, 0, 1, 0, 0, 1, 1, 1]
noncomputable def K31 (k n1 : Nat) : C := outD h c14 (K18 k n1)
noncomputable def K32 (k n1 : Nat) : C := seqC E h k c14 (K18 k n1)
noncomputable def c15 : Code := subC b [1, 0, 1, 0, 0, 1, 0, 0, 1, 1, 1, 1]
noncomputable def K33 (k n1 : Nat) : C := outD h c15 (K31 k n1)
noncomputable def K34 (k n1 : Nat) : C := seqC E h k c15 (K31 k n1)
noncomputable def c16 : Code := subC b [1, 0, 1, 0, 0, 1, 0, 0, 1, 1, 1, 1, 1]
noncomputable def K35 (k n1 : Nat) : C := outD h c16 (K33 k n1)
noncomputable def K36 (k n1 : Nat) : C := seqC E h k c16 (K33 k n1)
noncomputable def c17 : Code := subC b [1, 0, 1, 0, 0, 1, 0, 0, 1, 1, 1, 1, 0, 1]
noncomputable def K37 (k n1 : Nat) : C := outD h c17 (K36 k n1)
noncomputable def K38 (k n1 : Nat) : C := seqC E h k c17 (K36 k n1)
noncomputable def c18 : Code := subC b [1, 0, 1, 0, 0, 1, 0, 0, 1, 1, 1, 1, 0, 1, 1, 1]
noncomputable def K39 (k n1 : Nat) : C := outD h c18 (K37 k n1)
noncomputable def K40 (k n1 : Nat) : C := seqC E h k c18 (K37 k n1)
noncomputable def c19 : Code := subC b [1, 0, 1, 0, 0, 1, 0, 0, 1, 1, 1, 1, 0, 1, 1, 1, 1]
noncomputable def K41 (k n1 : Nat) : C := outD h c19 (K39 k n1)
noncomputable def K42 (k n1 : Nat) : C := seqC E h k c19 (K39 k n1)
noncomputable def K43 (k n1 : Nat) : C := blockK 4 (K41 k n1)
noncomputable def c20 : Code := subC b [1, 0, 1, 0, 0, 1, 0, 0, 1, 1, 1, 1, 1, 1]
noncomputable def K44 (k n1 : Nat) : C := outD h c20 (K35 k n1)
noncomputable def K45 (k n1 : Nat) : C := seqC E h k c20 (K35 k n1)
noncomputable def c21 : Code := subC b [1, 0, 1, 0, 0, 1, 0, 0, 1, 1, 1, 1, 1, 1, 0, 1]
noncomputable def K46 (k n1 : Nat) : C := outD h c21 (K44 k n1)
noncomputable def K47 (k n1 : Nat) : C := seqC E h k c21 (K44 k n1)
noncomputable def c22 : Code := subC b [1, 0, 1, 0, 0, 1, 0, 0, 1, 1, 1, 1, 0, 1, 1, 1, 1, 0, 0]
noncomputable def K48 (k n1 n7 : Nat) : C := loopD E h k c22 (K43 k n1) n7
noncomputable def c23 : Code := subC b [1, 0, 1, 0, 0, 1, 0, 0, 1, 1, 1, 1, 0, 1, 1, 1, 1, 0, 0, 1]
noncomputable def K49 (k n1 n7 : Nat) : C := outD h c23 (K48 k n1 n7)
noncomputable def K50 (k n1 n7 : Nat) : C := seqC E h k c23 (K48 k n1 n7)
noncomputable def c24 : Code := subC b [1, 0, 1, 0, 0, 1, 0, 0, 1, 1, 1, 1, 0, 1, 1, 1, 1, 0, 0, 0, 1]
noncomputable def K51 (k n1 n7 : Nat) : C := outD h c24 (K50 k n1 n7)
noncomputable def K52 (k n1 n7 : Nat) : C := seqC E h k c24 (K50 k n1 n7)
noncomputable def c25 : Code := subC b [1, 0, 1, 0, 0, 1, 0, 0, 1, 1, 1, 1, 0, 1, 1, 1, 1, 0, 0, 1, 1]
noncomputable def K53 (k n1 n7 : Nat) : C := outD h c25 (K49 k n1 n7)
noncomputable def K54 (k n1 n7 : Nat) : C := seqC E h k c25 (K49 k n1 n7)
noncomputable def K55 (k n1 n7 : Nat) : C := blockK 5 (K54 k n1 n7)
noncomputable def c26 : Code := subC b [1, 1, 1]
noncomputable def K56 (k : Nat) : C := outD h c26 (K3 k)
noncomputable def K57 (k : Nat) : C := seqC E h k c26 (K3 k)
abbrev T9 := (List UInt8) → Int → R
abbrev T8 := (List UInt8) → Int → Int → Bool → R
abbrev T6 := (List UInt8) → Int → Int → Int → R
abbrev T7 := (List UInt8) → Int → Int → Int → Int → R
abbrev T5 := (List UInt8) → Int → R
abbrev T4 := (List UInt8) → Int → Int → Int → R
abbrev T2 := (List UInt8) → Int → R
abbrev T3 := R
abbrev T1 := (List UInt8) → Int → R
abbrev T0 := (List UInt8) → R
abbrev s9 : (List UInt8) → Int → ST cx := fun (x0 : List UInt8) (x4 : Int) => ({ vars := [(0, .v .str .ro x0), (4, .v (.int .i64) .ro x4)], scr := [], mems := [] } : ST cx)
noncomputable def u9 (k n1 : Nat) : T9 := fun (x0 : List UInt8) (x4 : Int) => runP E h k c6 (s9 x0 x4) (K13 k n1)
noncomputable abbrev l9 (k n1 : Nat) : T9 := fun (x0 : List UInt8) (x4 : Int) => cutK (run E h k c6) (s9 x0 x4) (K13 k n1)
abbrev s8 : (List UInt8) → Int → Int → Bool → ST cx := fun (x0 : List UInt8) (x4 x5 : Int) (x74 : Bool) => ({ vars := [(0, .v .str .ro x0), (4, .v (.int .i64) .ro x4), (5, .v (.int .i64) .ro x5), (74, .v .bool .ro x74)], scr := [], mems := [] } : ST cx)
noncomputable def u8 (k n1 : Nat) : T8 := fun (x0 : List UInt8) (x4 x5 : Int) (x74 : Bool) => runP E h k c20 (s8 x0 x4 x5 x74) (K44 k n1)
noncomputable abbrev l8 (k n1 : Nat) : T8 := fun (x0 : List UInt8) (x4 x5 : Int) (x74 : Bool) => cutK (run E h k c20) (s8 x0 x4 x5 x74) (K44 k n1)
abbrev s6 : (List UInt8) → Int → Int → Int → ST cx := fun (x0 : List UInt8) (x4 x5 x8 : Int) => ({ vars := [(0, .v .str .ro x0), (4, .v (.int .i64) .ro x4), (5, .v (.int .i64) .ro x5), (8, .v (.int .i64) .ro x8)], scr := [], mems := [] } : ST cx)
noncomputable def u6 (k n1 : Nat) : T6 := fun (x0 : List UInt8) (x4 x5 x8 : Int) => runP E h k c16 (s6 x0 x4 x5 x8) (K35 k n1)
noncomputable abbrev l6 (k n1 : Nat) : T6 := fun (x0 : List UInt8) (x4 x5 x8 : Int) => cutK (run E h k c16) (s6 x0 x4 x5 x8) (K35 k n1)
abbrev s7 : (List UInt8) → Int → Int → Int → Int → ST cx := fun (x0 : List UInt8) (x4 x5 x8 x9 : Int) => ({ vars := [(0, .v .str .ro x0), (4, .v (.int .i64) .ro x4), (5, .v (.int .i64) .ro x5), (8, .v (.int .i64) .ro x8), (9, .v (.int .i64) .ro x9)], scr := [], mems := [] } : ST cx)
noncomputable def u7 (k n1 n7 : Nat) : T7 := fun (x0 : List UInt8) (x4 x5 x8 x9 : Int) => loopP E h k c22 (K43 k n1) n7 (s7 x0 x4 x5 x8 x9)
noncomputable abbrev l7 (k n1 n7 : Nat) : T7 := fun (x0 : List UInt8) (x4 x5 x8 x9 : Int) => cutK (loopL E h k c22 (K43 k n1) n7) (s7 x0 x4 x5 x8 x9) ()
abbrev s5 : (List UInt8) → Int → ST cx := fun (x0 : List UInt8) (x4 : Int) => ({ vars := [(0, .v .str .ro x0), (4, .v (.int .i64) .ro x4)], scr := [], mems := [] } : ST cx)
noncomputable def u5 (k n1 : Nat) : T5 := fun (x0 : List UInt8) (x4 : Int) => runP E h k c8 (s5 x0 x4) (K18 k n1)
noncomputable abbrev l5 (k n1 : Nat) : T5 := fun (x0 : List UInt8) (x4 : Int) => cutK (run E h k c8) (s5 x0 x4) (K18 k n1)
abbrev s4 : (List UInt8) → Int → Int → Int → ST cx := fun (x0 : List UInt8) (x4 x5 x6 : Int) => ({ vars := [(0, .v .str .ro x0), (4, .v (.int .i64) .ro x4), (5, .v (.int .i64) .ro x5), (6, .v (.int .i64) .ro x6)], scr := [], mems := [] } : ST cx)
noncomputable def u4 (k n1 n4 : Nat) : T4 := fun (x0 : List UInt8) (x4 x5 x6 : Int) => loopP E h k c10 (K22 k n1) n4 (s4 x0 x4 x5 x6)
noncomputable abbrev l4 (k n1 n4 : Nat) : T4 := fun (x0 : List UInt8) (x4 x5 x6 : Int) => cutK (loopL E h k c10 (K22 k n1) n4) (s4 x0 x4 x5 x6) ()
abbrev s2 : (List UInt8) → Int → ST cx := fun (x0 : List UInt8) (x4 : Int) => ({ vars := [(0, .v .str .ro x0), (4, .v (.int .i64) .ro x4)], scr := [], mems := [] } : ST cx)
noncomputable def u2 (k n1 : Nat) : T2 := fun (x0 : List UInt8) (x4 : Int) => runP E h k c4 (s2 x0 x4) (K9 k n1)
noncomputable abbrev l2 (k n1 : Nat) : T2 := fun (x0 : List UInt8) (x4 : Int) => cutK (run E h k c4) (s2 x0 x4) (K9 k n1)
abbrev s3 : ST cx := ({ vars := [], scr := [], mems := [] } : ST cx)
noncomputable def u3 (k : Nat) : T3 := runP E h k c1 s3 (K3 k)
noncomputable abbrev l3 (k : Nat) : T3 := cutK (run E h k c1) s3 (K3 k)
abbrev s1 : (List UInt8) → Int → ST cx := fun (x0 : List UInt8) (x4 : Int) => ({ vars := [(0, .v .str .ro x0), (4, .v (.int .i64) .ro x4)], scr := [], mems := [] } : ST cx)
noncomputable def u1 (k n1 : Nat) : T1 := fun (x0 : List UInt8) (x4 : Int) => loopP E h k c3 (K7 k) n1 (s1 x0 x4)
noncomputable abbrev l1 (k n1 : Nat) : T1 := fun (x0 : List UInt8) (x4 : Int) => cutK (loopL E h k c3 (K7 k) n1) (s1 x0 x4) ()
noncomputable def u0 (k : Nat) : T0 := fun (x0 : List UInt8) => runOf (S := cx) E h k Try.f9 [.val .str] (.pair (.int .i64) (.int .i64)) .ro (x0, ())
def t9 (f1 : T1) : T9 := fun (x0 : List UInt8) (x4 : Int) => 
  (f1 x0 (w64 (x4 + (1 : Int))))
theorem e9 (k n1 : Nat) : u9 k n1 = t9 (l1 k n1) := by kernel_rfl
def p9 (k : Nat) (a1 : T1) : T9 := t9 a1
theorem o9 (k n1 : Nat) (a1 : T1) (h1 : l1 k n1 = a1) : l9 k n1 = p9 k a1 := by rw [show l9 k n1 = u9 k n1 from by kernel_rfl, e9, h1]; rfl
def t8 (f9 : T9) : T8 := fun (x0 : List UInt8) (x4 x5 : Int) (x74 : Bool) => 
  (iteB x74 (some ((x5, x4), ())) (f9 x0 x4))
theorem e8 (k n1 : Nat) : u8 k n1 = t8 (l9 k n1) := by kernel_rfl
def p8 (k : Nat) (a1 : T1) : T8 := t8 (p9 k a1)
theorem o8 (k n1 : Nat) (a1 : T1) (h1 : l1 k n1 = a1) : l8 k n1 = p8 k a1 := by rw [show l8 k n1 = u8 k n1 from by kernel_rfl, e8, (o9 k n1 a1 h1)]; rfl
def t6 (f8 : T8) : T6 := fun (x0 : List UInt8) (x4 x5 x8 : Int) => 
  (iteB (decide ((0 : Int) ≤ x8)) (bindR (s_rsign (x5, ())) fun r5 => (iteB r5.1 (mustR (decide (0 ≤ x4)) (mustR (decide (x4 ≤ (((List.length x0) : Nat) : Int))) (bindR (s_rbytes (x5, ())) fun r6 => (f8 x0 x4 x5 (decide (r6.1 = (List.drop 0 (List.take (Int.toNat x4) x0)))))))) (f8 x0 x4 x5 false))) (f8 x0 x4 x5 false))
theorem e6 (k n1 : Nat) : u6 k n1 = t6 (l8 k n1) := by kernel_rfl
def p6 (k : Nat) (a1 : T1) : T6 := t6 (p8 k a1)
theorem o6 (k n1 : Nat) (a1 : T1) (h1 : l1 k n1 = a1) : l6 k n1 = p6 k a1 := by rw [show l6 k n1 = u6 k n1 from by kernel_rfl, e6, (o8 k n1 a1 h1)]; rfl
def t7 (f7 : T7) (f6 : T6) : T7 := fun (x0 : List UInt8) (x4 x5 x8 x9 : Int) => 
  (iteB (decide (x9 < x4)) (withinR x9 (List.length x0) fun q7 => (f7 x0 x4 (w64 ((w64 ((64 : Int) * x5)) + (w64 ((Int.tmod (byteAt x0 q7) (64 : Int)))))) x8 (w64 (x9 + (1 : Int))))) (f6 x0 x4 x5 x8))
theorem e7 (k n1 n7 : Nat) : u7 k n1 (n7 + 1) = t7 (l7 k n1 n7) (l6 k n1) := by kernel_rfl
def p7 (k : Nat) (a1 : T1) : Nat → T7
  | 0 => fun _ _ _ _ _ => none
  | n7 + 1 => t7 (p7 k a1 n7) (p6 k a1)
theorem o7 (k n1 : Nat) (a1 : T1) (h1 : l1 k n1 = a1) : ∀ n7, l7 k n1 n7 = p7 k a1 n7
  | 0 => rfl
  | n7 + 1 => by rw [show l7 k n1 (n7 + 1) = u7 k n1 (n7 + 1) from by kernel_rfl, e7, (o7 k n1 a1 h1 n7), (o6 k n1 a1 h1)]; rfl
def t5 (f6 : T6) (f7 : T7) : T5 := fun (x0 : List UInt8) (x4 : Int) => 
  (withinR x4 (List.length [(0 : Int), (0 : Int), (192 : Int), (224 : Int), (240 : Int)]) fun q2 => (withinR (0 : Int) (List.length x0) fun q3 => (iteB (decide (x4 = (1 : Int))) (withinR (0 : Int) (List.length x0) fun q4 => (f6 x0 x4 (w64 ((byteAt x0 q4))) (w64 ((w64 ((byteAt x0 q3))) - (List.getD [(0 : Int), (0 : Int), (192 : Int), (224 : Int), (240 : Int)] q2 (0 : Int)))))) (f7 x0 x4 (w64 ((w64 ((byteAt x0 q3))) - (List.getD [(0 : Int), (0 : Int), (192 : Int), (224 : Int), (240 : Int)] q2 (0 : Int)))) (w64 ((w64 ((byteAt x0 q3))) - (List.getD [(0 : Int), (0 : Int), (192 : Int), (224 : Int), (240 : Int)] q2 (0 : Int)))) (1 : Int)))))
theorem e5 (k n1 : Nat) : u5 k n1 = t5 (l6 k n1) (l7 k n1 k) := by kernel_rfl
def p5 (k : Nat) (a1 : T1) : T5 := t5 (p6 k a1) (p7 k a1 k)
theorem o5 (k n1 : Nat) (a1 : T1) (h1 : l1 k n1 = a1) : l5 k n1 = p5 k a1 := by rw [show l5 k n1 = u5 k n1 from by kernel_rfl, e5, (o6 k n1 a1 h1), (o7 k n1 a1 h1 k)]; rfl
def t4 (f4 : T4) (f5 : T5) : T4 := fun (x0 : List UInt8) (x4 x5 x6 : Int) => 
  (iteB (decide (x6 < x4)) (withinR x6 (List.length x0) fun q1 => (f4 x0 x4 (w64 ((w64 ((64 : Int) * x5)) + (w64 ((Int.tmod (byteAt x0 q1) (64 : Int)))))) (w64 (x6 + (1 : Int))))) (f5 x0 x4))
theorem e4 (k n1 n4 : Nat) : u4 k n1 (n4 + 1) = t4 (l4 k n1 n4) (l5 k n1) := by kernel_rfl
def p4 (k : Nat) (a1 : T1) : Nat → T4
  | 0 => fun _ _ _ _ => none
  | n4 + 1 => t4 (p4 k a1 n4) (p5 k a1)
theorem o4 (k n1 : Nat) (a1 : T1) (h1 : l1 k n1 = a1) : ∀ n4, l4 k n1 n4 = p4 k a1 n4
  | 0 => rfl
  | n4 + 1 => by rw [show l4 k n1 (n4 + 1) = u4 k n1 (n4 + 1) from by kernel_rfl, e4, (o4 k n1 a1 h1 n4), (o5 k n1 a1 h1)]; rfl
def t2 (f4 : T4) : T2 := fun (x0 : List UInt8) (x4 : Int) => 
  (f4 x0 x4 (0 : Int) (0 : Int))
theorem e2 (k n1 : Nat) : u2 k n1 = t2 (l4 k n1 k) := by kernel_rfl
def p2 (k : Nat) (a1 : T1) : T2 := t2 (p4 k a1 k)
theorem o2 (k n1 : Nat) (a1 : T1) (h1 : l1 k n1 = a1) : l2 k n1 = p2 k a1 := by rw [show l2 k n1 = u2 k n1 from by kernel_rfl, e2, (o4 k n1 a1 h1 k)]; rfl
def t3 : T3 := 
  (some (((-1 : Int), (0 : Int)), ()))
theorem e3 (k : Nat) : u3 k = t3 := by kernel_rfl
def p3 (k : Nat) : T3 := t3
theorem o3 (k : Nat) : l3 k = p3 k := by rw [show l3 k = u3 k from by kernel_rfl, e3]; rfl
def t1 (f2 : T2) (f3 : T3) : T1 := fun (x0 : List UInt8) (x4 : Int) => 
  (iteB (decide (x4 ≤ (4 : Int))) (iteB (decide (x4 ≤ ((List.length x0 : Nat) : Int))) (f2 x0 x4) f3) f3)
theorem e1 (k n1 : Nat) : u1 k (n1 + 1) = t1 (l2 k n1) (l3 k) := by kernel_rfl
def p1 (k : Nat) : Nat → T1
  | 0 => fun _ _ => none
  | n1 + 1 => t1 (p2 k (p1 k n1)) (p3 k)
theorem o1 (k : Nat) : ∀ n1, l1 k n1 = p1 k n1
  | 0 => rfl
  | n1 + 1 => by rw [show l1 k (n1 + 1) = u1 k (n1 + 1) from by kernel_rfl, e1, (o2 k n1 (p1 k n1) (o1 k n1)), (o3 k)]; rfl
def t0 (f1 : T1) : T0 := fun (x0 : List UInt8) => 
  (f1 x0 (1 : Int))
theorem e0 (k : Nat) : u0 k = t0 (l1 k k) := by kernel_rfl
def p0 (k : Nat) : T0 := t0 (p1 k k)
theorem o0 (k : Nat) : u0 k = p0 k := by rw [e0, (o1 k k)]; rfl
end rfirst
def s_rfirst (a : (List UInt8) × (Unit)) : Option (((Int) × (Int)) × (Unit)) := rfirst.p0 (10) a.1
noncomputable def F_rfirst : FSpec cx.toNm := { ps := [.val .str], nres := 2, rt := (.pair (.int .i64) (.int .i64)), rm := .ro, f := s_rfirst }
theorem ok_rfirst : FnOk Try.prog F_rfirst 9 := fn_of (hn := rfirst.h) (E := rfirst.E) cxOk (tysT _) (fs_cons ok_rsign (fs_cons ok_rbytes fs_nil)) follows Try.func9 (by kernel_rfl) (fun a r h => ⟨10, (congrFun (rfirst.o0 (10)) a.1).trans h⟩)
namespace bytes
noncomputable def E : Env cx := { tys := tys, fs := fsOf [(24, F_isSign)] }
abbrev R := Option ((List UInt8) × (Unit))
abbrev C := Exit → ST cx → R
noncomputable def b : Code := bodyC Try.f10
noncomputable def h : Hint := { vs := [0, 2], nil := [], cuts := [], ret := ([2], []), ords := [] }
noncomputable def K0 : C := fin (S := cx) E Try.f10.results.toList .str .ro [] []
noncomputable def c0 : Code := subC b [1]
noncomputable def K1 (k : Nat) : C := outD h c0 K0
noncomputable def K2 (k : Nat) : C := seqC E h k c0 K0
noncomputable def c1 : Code := subC b [1, 1]
noncomputable def K3 (k : Nat) : C := outD h c1 (K1 k)
noncomputable def K4 (k : Nat) : C := seqC E h k c1 (K1 k)
noncomputable def K5 (k : Nat) : C := blockK 0 (K4 k)
noncomputable def c2 : Code := subC b [1, 0, 0, 1]
noncomputable def K6 (k : Nat) : C := outD h c2 (K5 k)
noncomputable def K7 (k : Nat) : C := seqC E h k c2 (K5 k)
noncomputable def c3 : Code := subC b [1, 0, 0, 1, 0, 1]
noncomputable def K8 (k : Nat) : C := outD h c3 (K6 k)
noncomputable def K9 (k : Nat) : C := seqC E h k c3 (K6 k)
noncomputable def c4 : Code := subC b [1, 0, 0, 1, 1, 1]
noncomputable def K10 (k : Nat) : C := outD h c4 (K6 k)
noncomputable def K11 (k : Nat) : C := seqC E h k c4 (K6 k)
noncomputable def c5 : Code := subC b [1, 0, 0, 1, 1, 1, 0, 1]
noncomputable def K12 (k : Nat) : C := outD h c5 (K10 k)
noncomputable def K13 (k : Nat) : C := seqC E h k c5 (K10 k)
noncomputable def c6 : Code := subC b [1, 0, 0, 1, 1, 1, 1, 1]
noncomputable def K14 (k : Nat) : C := outD h c6 (K10 k)
noncomputable def K15 (k : Nat) : C := seqC E h k c6 (K10 k)
noncomputable def c7 : Code := subC b [1, 0, 0, 1, 1, 1, 1, 1, 0, 1]
noncomputable def K16 (k : Nat) : C := outD h c7 (K14 k)
noncomputable def K17 (k : Nat) : C := seqC E h k c7 (K14 k)
noncomputable def c8 : Code := subC b [1, 0, 0, 1, 1, 1, 1, 1, 1, 1]
noncomputable def K18 (k : Nat) : C := outD h c8 (K14 k)
noncomputable def K19 (k : Nat) : C := seqC E h k c8 (K14 k)
noncomputable def c9 : Code := subC b [1, 0, 0, 1, 1, 1, 1, 1, 1, 1, 0, 1]
noncomputable def K20 (k : Nat) : C := outD h c9 (K18 k)
noncomputable def K21 (k : Nat) : C := seqC E h k c9 (K18 k)
noncomputable def c10 : Code := subC b [1, 1, 1]
noncomputable def K22 (k : Nat) : C := outD h c10 (K3 k)
noncomputable def K23 (k : Nat) : C := seqC E h k c10 (K3 k)
abbrev T0 := Int → R
noncomputable def u0 (k : Nat) : T0 := fun (x0 : Int) => runOf (S := cx) E h k Try.f10 [.val (.int .i64)] .str .ro (x0, ())
def t0 : T0 := fun (x0 : Int) => 
  (bindR (s_isSign (x0, ())) fun r1 => (iteB (notB r1.1) (some (([] : List UInt8), ())) (iteB (decide (x0 < (128 : Int))) (some ((bytesOf [(w8 (x0))]), ())) (iteB (decide (x0 < (2048 : Int))) (some ((bytesOf [(w8 ((bitI .or .i64 (192 : Int) (shrI .i64 x0 (6 : Int))))), (w8 ((bitI .or .i64 (128 : Int) (bitI .and .i64 x0 (63 : Int)))))]), ())) (iteB (decide (x0 < (65536 : Int))) (some ((bytesOf [(w8 ((bitI .or .i64 (224 : Int) (shrI .i64 x0 (12 : Int))))), (w8 ((bitI .or .i64 (128 : Int) (bitI .and .i64 (shrI .i64 x0 (6 : Int)) (63 : Int))))), (w8 ((bitI .or .i64 (128 : Int) (bitI .and .i64 x0 (63 : Int)))))]), ())) (some ((bytesOf [(w8 ((bitI .or .i64 (240 : Int) (shrI .i64 x0 (18 : Int))))), (w8 ((bitI .or .i64 (128 : Int) (bitI .and .i64 (shrI .i64 x0 (12 : Int)) (63 : Int))))), (w8 ((bitI .or .i64 (128 : Int) (bitI .and .i64 (shrI .i64 x0 (6 : Int)) (63 : Int))))), (w8 ((bitI .or .i64 (128 : Int) (bitI .and .i64 x0 (63 : Int)))))]), ())))))))
theorem e0 (k : Nat) : u0 k = t0 := by kernel_rfl
def p0 (k : Nat) : T0 := t0
theorem o0 (k : Nat) : u0 k = p0 k := by rw [e0]; rfl
end bytes
def s_bytes (a : (Int) × (Unit)) : Option ((List UInt8) × (Unit)) := bytes.p0 (0) a.1
noncomputable def F_bytes : FSpec cx.toNm := { ps := [.val (.int .i64)], nres := 1, rt := .str, rm := .ro, f := s_bytes }
theorem ok_bytes : FnOk Try.prog F_bytes 10 := fn_of (hn := bytes.h) (E := bytes.E) cxOk (tysT _) (fs_cons ok_isSign fs_nil) follows Try.func10 (by kernel_rfl) (fun a r h => ⟨0, (congrFun (bytes.o0 (0)) a.1).trans h⟩)
namespace edge
noncomputable def E : Env cx := { tys := tys, fs := fsOf [(23, F_isFollower)] }
abbrev R := Option ((Bool) × (Unit))
abbrev C := Exit → ST cx → R
noncomputable def b : Code := bodyC Try.f15
noncomputable def h : Hint := { vs := [0, 1, 4], nil := [], cuts := [], ret := ([4], []), ords := [] }
noncomputable def K0 : C := fin (S := cx) E Try.f15.results.toList .bool .ro [] []
noncomputable def c0 : Code := subC b [1]
noncomputable def K1 (k : Nat) : C := outD h c0 K0
noncomputable def K2 (k : Nat) : C := seqC E h k c0 K0
noncomputable def c1 : Code := subC b [1, 1]
noncomputable def K3 (k : Nat) : C := outD h c1 (K1 k)
noncomputable def K4 (k : Nat) : C := seqC E h k c1 (K1 k)
abbrev T0 := (List UInt8) → Int → R
noncomputable def u0 (k : Nat) : T0 := fun (x0 : List UInt8) (x1 : Int) => runOf (S := cx) E h k Try.f15 [.val .str, .val (.int .i64)] .bool .ro (x0, x1, ())
def t0 : T0 := fun (x0 : List UInt8) (x1 : Int) => 
  (iteB (decide (x1 = ((List.length x0 : Nat) : Int))) (some (true, ())) (iteB (decide ((0 : Int) ≤ x1)) (iteB (decide (x1 < ((List.length x0 : Nat) : Int))) (withinR x1 (List.length x0) fun q1 => (bindR (s_isFollower ((byteAt x0 q1), ())) fun r2 => (some ((notB r2.1), ())))) (some (false, ()))) (some (false, ()))))
theorem e0 (k : Nat) : u0 k = t0 := by kernel_rfl
def p0 (k : Nat) : T0 := t0
theorem o0 (k : Nat) : u0 k = p0 k := by rw [e0]; rfl
end edge
def s_edge (a : (List UInt8) × ((Int) × (Unit))) : Option ((Bool) × (Unit)) := edge.p0 (0) a.1 a.2.1
noncomputable def F_edge : FSpec cx.toNm := { ps := [.val .str, .val (.int .i64)], nres := 1, rt := .bool, rm := .ro, f := s_edge }
theorem ok_edge : FnOk Try.prog F_edge 15 := fn_of (hn := edge.h) (E := edge.E) cxOk (tysT _) (fs_cons ok_isFollower fs_nil) follows Try.func15 (by kernel_rfl) (fun a r h => ⟨0, (congrFun (congrFun (edge.o0 (0)) a.1) a.2.1).trans h⟩)
namespace next
noncomputable def E : Env cx := { tys := tys, fs := fsOf [(15, F_edge)] }
abbrev R := Option ((Int) × (Unit))
abbrev C := Exit → ST cx → R
noncomputable def b : Code := bodyC Try.f17
noncomputable def h : Hint := { vs := [0, 1, 4], nil := [], cuts := [(3, ([0, 1], []), ([0, 1], [])), (7, ([0], []), ([0], []))], ret := ([4], []), ords := [] }
noncomputable def K0 : C := fin (S := cx) E Try.f17.results.toList (.int .i64) .ro [] []
noncomputable def c0 : Code := subC b [1]
noncomputable def K1 (k : Nat) : C := outD h c0 K0
noncomputable def K2 (k : Nat) : C := seqC E h k c0 K0
noncomputable def c1 : Code := subC b [1, 1]
noncomputable def K3 (k : Nat) : C := outD h c1 (K1 k)
noncomputable def K4 (k : Nat) : C := seqC E h k c1 (K1 k)
noncomputable def c2 : Code := subC b [1, 0, 1]
noncomputable def K5 (k : Nat) : C := outD h c2 (K4 k)
noncomputable def K6 (k : Nat) : C := seqC E h k c2 (K4 k)
noncomputable def c3 : Code := subC b [1, 0, 1, 0, 1]
noncomputable def K7 (k : Nat) : C := outD h c3 (K5 k)
noncomputable def K8 (k : Nat) : C := seqC E h k c3 (K5 k)
noncomputable def c4 : Code := subC b [1, 1, 1]
noncomputable def K9 (k : Nat) : C := outD h c4 (K3 k)
noncomputable def K10 (k : Nat) : C := seqC E h k c4 (K3 k)
noncomputable def K11 (k : Nat) : C := blockK 0 (K10 k)
noncomputable def c5 : Code := subC b [1, 1, 0, 0, 0]
noncomputable def K12 (k n1 : Nat) : C := loopD E h k c5 (K11 k) n1
noncomputable def c6 : Code := subC b [1, 1, 0, 0, 0, 1]
noncomputable def K13 (k n1 : Nat) : C := outD h c6 (K12 k n1)
noncomputable def K14 (k n1 : Nat) : C := seqC E h k c6 (K12 k n1)
noncomputable def c7 : Code := subC b [1, 1, 0, 0, 0, 0, 1]
noncomputable def K15 (k n1 : Nat) : C := outD h c7 (K14 k n1)
noncomputable def K16 (k n1 : Nat) : C := seqC E h k c7 (K14 k n1)
noncomputable def K17 (k n1 : Nat) : C := blockK 1 (K13 k n1)
noncomputable def c8 : Code := subC b [1, 1, 0, 0, 0, 1, 0, 1]
noncomputable def K18 (k n1 : Nat) : C := outD h c8 (K17 k n1)
noncomputable def K19 (k n1 : Nat) : C := seqC E h k c8 (K17 k n1)
noncomputable def c9 : Code := subC b [1, 1, 0, 0, 0, 1, 0, 1, 1]
noncomputable def K20 (k n1 : Nat) : C := outD h c9 (K18 k n1)
noncomputable def K21 (k n1 : Nat) : C := seqC E h k c9 (K18 k n1)
noncomputable def c10 : Code := subC b [1, 1, 0, 0, 0, 1, 0, 1, 1, 0, 1]
noncomputable def K22 (k n1 : Nat) : C := outD h c10 (K20 k n1)
noncomputable def K23 (k n1 : Nat) : C := seqC E h k c10 (K20 k n1)
noncomputable def c11 : Code := subC b [1, 1, 1, 1]
noncomputable def K24 (k : Nat) : C := outD h c11 (K9 k)
noncomputable def K25 (k : Nat) : C := seqC E h k c11 (K9 k)
abbrev T2 := (List UInt8) → R
abbrev T1 := (List UInt8) → Int → R
abbrev T0 := (List UInt8) → Int → R
abbrev s2 : (List UInt8) → ST cx := fun (x0 : List UInt8) => ({ vars := [(0, .v .str .ro x0)], scr := [], mems := [] } : ST cx)
noncomputable def u2 (k : Nat) : T2 := fun (x0 : List UInt8) => runP E h k c4 (s2 x0) (K9 k)
noncomputable abbrev l2 (k : Nat) : T2 := fun (x0 : List UInt8) => cutK (run E h k c4) (s2 x0) (K9 k)
abbrev s1 : (List UInt8) → Int → ST cx := fun (x0 : List UInt8) (x1 : Int) => ({ vars := [(0, .v .str .ro x0), (1, .v (.int .i64) .ro x1)], scr := [], mems := [] } : ST cx)
noncomputable def u1 (k n1 : Nat) : T1 := fun (x0 : List UInt8) (x1 : Int) => loopP E h k c5 (K11 k) n1 (s1 x0 x1)
noncomputable abbrev l1 (k n1 : Nat) : T1 := fun (x0 : List UInt8) (x1 : Int) => cutK (loopL E h k c5 (K11 k) n1) (s1 x0 x1) ()
noncomputable def u0 (k : Nat) : T0 := fun (x0 : List UInt8) (x1 : Int) => runOf (S := cx) E h k Try.f17 [.val .str, .val (.int .i64)] (.int .i64) .ro (x0, x1, ())
def t2 : T2 := fun (x0 : List UInt8) => 
  (some (((List.length x0 : Nat) : Int), ()))
theorem e2 (k : Nat) : u2 k = t2 := by kernel_rfl
def p2 (k : Nat) : T2 := t2
theorem o2 (k : Nat) : l2 k = p2 k := by rw [show l2 k = u2 k from by kernel_rfl, e2]; rfl
def t1 (f1 : T1) (f2 : T2) : T1 := fun (x0 : List UInt8) (x1 : Int) => 
  (iteB (decide (x1 < ((List.length x0 : Nat) : Int))) (bindR (s_edge (x0, ((w64 (x1 + (1 : Int))), ()))) fun r1 => (iteB r1.1 (some ((w64 (x1 + (1 : Int))), ())) (f1 x0 (w64 (x1 + (1 : Int)))))) (f2 x0))
theorem e1 (k n1 : Nat) : u1 k (n1 + 1) = t1 (l1 k n1) (l2 k) := by kernel_rfl
def p1 (k : Nat) : Nat → T1
  | 0 => fun _ _ => none
  | n1 + 1 => t1 (p1 k n1) (p2 k)
theorem o1 (k : Nat) : ∀ n1, l1 k n1 = p1 k n1
  | 0 => rfl
  | n1 + 1 => by rw [show l1 k (n1 + 1) = u1 k (n1 + 1) from by kernel_rfl, e1, (o1 k n1), (o2 k)]; rfl
def t0 (f1 : T1) : T0 := fun (x0 : List UInt8) (x1 : Int) => 
  (iteB (decide (x1 < (0 : Int))) (some ((0 : Int), ())) (f1 x0 x1))
theorem e0 (k : Nat) : u0 k = t0 (l1 k k) := by kernel_rfl
def p0 (k : Nat) : T0 := t0 (p1 k k)
theorem o0 (k : Nat) : u0 k = p0 k := by rw [e0, (o1 k k)]; rfl
end next
def s_next (a : (List UInt8) × ((Int) × (Unit))) : Option ((Int) × (Unit)) := next.p0 (List.length a.1 + 10) a.1 a.2.1
noncomputable def F_next : FSpec cx.toNm := { ps := [.val .str, .val (.int .i64)], nres := 1, rt := (.int .i64), rm := .ro, f := s_next }
theorem ok_next : FnOk Try.prog F_next 17 := fn_of (hn := next.h) (E := next.E) cxOk (tysT _) (fs_cons ok_edge fs_nil) follows Try.func17 (by kernel_rfl) (fun a r h => ⟨List.length a.1 + 10, (congrFun (congrFun (next.o0 (List.length a.1 + 10)) a.1) a.2.1).trans h⟩)
namespace back
noncomputable def E : Env cx := { tys := tys, fs := fsOf [(15, F_edge)] }
abbrev R := Option ((Int) × (Unit))
abbrev C := Exit → ST cx → R
noncomputable def b : Code := bodyC Try.f18
noncomputable def h : Hint := { vs := [0, 1, 4], nil := [], cuts := [(3, ([0, 1], []), ([0, 1], [])), (7, ([], []), ([], []))], ret := ([4], []), ords := [] }
noncomputable def K0 : C := fin (S := cx) E Try.f18.results.toList (.int .i64) .ro [] []
noncomputable def c0 : Code := subC b [1]
noncomputable def K1 (k : Nat) : C := outD h c0 K0
noncomputable def K2 (k : Nat) : C := seqC E h k c0 K0
noncomputable def c1 : Code := subC b [1, 1]
noncomputable def K3 (k : Nat) : C := outD h c1 (K1 k)
noncomputable def K4 (k : Nat) : C := seqC E h k c1 (K1 k)
noncomputable def c2 : Code := subC b [1, 0, 1]
noncomputable def K5 (k : Nat) : C := outD h c2 (K4 k)
noncomputable def K6 (k : Nat) : C := seqC E h k c2 (K4 k)
noncomputable def c3 : Code := subC b [1, 0, 1, 0, 1]
noncomputable def K7 (k : Nat) : C := outD h c3 (K5 k)
noncomputable def K8 (k : Nat) : C := seqC E h k c3 (K5 k)
noncomputable def c4 : Code := subC b [1, 1, 1]
noncomputable def K9 (k : Nat) : C := outD h c4 (K3 k)
noncomputable def K10 (k : Nat) : C := seqC E h k c4 (K3 k)
noncomputable def K11 (k : Nat) : C := blockK 0 (K10 k)
noncomputable def c5 : Code := subC b [1, 1, 0, 0, 0]
noncomputable def K12 (k n1 : Nat) : C := loopD E h k c5 (K11 k) n1
noncomputable def c6 : Code := subC b [1, 1, 0, 0, 0, 1]
noncomputable def K13 (k n1 : Nat) : C := outD h c6 (K12 k n1)
noncomputable def K14 (k n1 : Nat) : C := seqC E h k c6 (K12 k n1)
noncomputable def c7 : Code := subC b [1, 1, 0, 0, 0, 0, 1]
noncomputable def K15 (k n1 : Nat) : C := outD h c7 (K14 k n1)
noncomputable def K16 (k n1 : Nat) : C := seqC E h k c7 (K14 k n1)
noncomputable def K17 (k n1 : Nat) : C := blockK 1 (K13 k n1)
noncomputable def c8 : Code := subC b [1, 1, 0, 0, 0, 1, 0, 1]
noncomputable def K18 (k n1 : Nat) : C := outD h c8 (K17 k n1)
noncomputable def K19 (k n1 : Nat) : C := seqC E h k c8 (K17 k n1)
noncomputable def c9 : Code := subC b [1, 1, 0, 0, 0, 1, 0, 1, 1]
noncomputable def K20 (k n1 : Nat) : C := outD h c9 (K18 k n1)
noncomputable def K21 (k n1 : Nat) : C := seqC E h k c9 (K18 k n1)
noncomputable def c10 : Code := subC b [1, 1, 0, 0, 0, 1, 0, 1, 1, 0, 1]
noncomputable def K22 (k n1 : Nat) : C := outD h c10 (K20 k n1)
noncomputable def K23 (k n1 : Nat) : C := seqC E h k c10 (K20 k n1)
noncomputable def c11 : Code := subC b [1, 1, 1, 1]
noncomputable def K24 (k : Nat) : C := outD h c11 (K9 k)
noncomputable def K25 (k : Nat) : C := seqC E h k c11 (K9 k)
abbrev T2 := R
abbrev T1 := (List UInt8) → Int → R
abbrev T0 := (List UInt8) → Int → R
abbrev s2 : ST cx := ({ vars := [], scr := [], mems := [] } : ST cx)
noncomputable def u2 (k : Nat) : T2 := runP E h k c4 s2 (K9 k)
noncomputable abbrev l2 (k : Nat) : T2 := cutK (run E h k c4) s2 (K9 k)
abbrev s1 : (List UInt8) → Int → ST cx := fun (x0 : List UInt8) (x1 : Int) => ({ vars := [(0, .v .str .ro x0), (1, .v (.int .i64) .ro x1)], scr := [], mems := [] } : ST cx)
noncomputable def u1 (k n1 : Nat) : T1 := fun (x0 : List UInt8) (x1 : Int) => loopP E h k c5 (K11 k) n1 (s1 x0 x1)
noncomputable abbrev l1 (k n1 : Nat) : T1 := fun (x0 : List UInt8) (x1 : Int) => cutK (loopL E h k c5 (K11 k) n1) (s1 x0 x1) ()
noncomputable def u0 (k : Nat) : T0 := fun (x0 : List UInt8) (x1 : Int) => runOf (S := cx) E h k Try.f18 [.val .str, .val (.int .i64)] (.int .i64) .ro (x0, x1, ())
def t2 : T2 := 
  (some ((0 : Int), ()))
theorem e2 (k : Nat) : u2 k = t2 := by kernel_rfl
def p2 (k : Nat) : T2 := t2
theorem o2 (k : Nat) : l2 k = p2 k := by rw [show l2 k = u2 k from by kernel_rfl, e2]; rfl
def t1 (f1 : T1) (f2 : T2) : T1 := fun (x0 : List UInt8) (x1 : Int) => 
  (iteB (decide ((0 : Int) < x1)) (bindR (s_edge (x0, ((w64 (x1 - (1 : Int))), ()))) fun r1 => (iteB r1.1 (some ((w64 (x1 - (1 : Int))), ())) (f1 x0 (w64 (x1 - (1 : Int)))))) f2)
theorem e1 (k n1 : Nat) : u1 k (n1 + 1) = t1 (l1 k n1) (l2 k) := by kernel_rfl
def p1 (k : Nat) : Nat → T1
  | 0 => fun _ _ => none
  | n1 + 1 => t1 (p1 k n1) (p2 k)
theorem o1 (k : Nat) : ∀ n1, l1 k n1 = p1 k n1
  | 0 => rfl
  | n1 + 1 => by rw [show l1 k (n1 + 1) = u1 k (n1 + 1) from by kernel_rfl, e1, (o1 k n1), (o2 k)]; rfl
def t0 (f1 : T1) : T0 := fun (x0 : List UInt8) (x1 : Int) => 
  (iteB (decide (((List.length x0 : Nat) : Int) < x1)) (some (((List.length x0 : Nat) : Int), ())) (f1 x0 x1))
theorem e0 (k : Nat) : u0 k = t0 (l1 k k) := by kernel_rfl
def p0 (k : Nat) : T0 := t0 (p1 k k)
theorem o0 (k : Nat) : u0 k = p0 k := by rw [e0, (o1 k k)]; rfl
end back
def s_back (a : (List UInt8) × ((Int) × (Unit))) : Option ((Int) × (Unit)) := back.p0 (List.length a.1 + 10) a.1 a.2.1
noncomputable def F_back : FSpec cx.toNm := { ps := [.val .str, .val (.int .i64)], nres := 1, rt := (.int .i64), rm := .ro, f := s_back }
theorem ok_back : FnOk Try.prog F_back 18 := fn_of (hn := back.h) (E := back.E) cxOk (tysT _) (fs_cons ok_edge fs_nil) follows Try.func18 (by kernel_rfl) (fun a r h => ⟨List.length a.1 + 10, (congrFun (congrFun (back.o0 (List.length a.1 + 10)) a.1) a.2.1).trans h⟩)
namespace count
noncomputable def E : Env cx := { tys := tys, fs := fsOf [(23, F_isFollower)] }
abbrev R := Option ((Int) × (Unit))
abbrev C := Exit → ST cx → R
noncomputable def b : Code := bodyC Try.f19
noncomputable def h : Hint := { vs := [0, 2, 3, 4, 6, 7], nil := [], cuts := [(3, ([0, 3, 6, 7], []), ([3], [])), (7, ([0, 3, 6, 7], []), ([0, 3, 6, 7], [])), (8, ([3], []), ([3], []))], ret := ([2], []), ords := [] }
noncomputable def K0 : C := fin (S := cx) E Try.f19.results.toList (.int .i64) .ro [] []
noncomputable def c0 : Code := subC b [1]
noncomputable def K1 (k : Nat) : C := outD h c0 K0
noncomputable def K2 (k : Nat) : C := seqC E h k c0 K0
noncomputable def c1 : Code := subC b [1, 1]
noncomputable def K3 (k : Nat) : C := outD h c1 (K1 k)
noncomputable def K4 (k : Nat) : C := seqC E h k c1 (K1 k)
noncomputable def c2 : Code := subC b [1, 1, 1]
noncomputable def K5 (k : Nat) : C := outD h c2 (K3 k)
noncomputable def K6 (k : Nat) : C := seqC E h k c2 (K3 k)
noncomputable def c3 : Code := subC b [1, 1, 0, 1]
noncomputable def K7 (k : Nat) : C := outD h c3 (K6 k)
noncomputable def K8 (k : Nat) : C := seqC E h k c3 (K6 k)
noncomputable def K9 (k : Nat) : C := blockK 0 (K7 k)
noncomputable def c4 : Code := subC b [1, 1, 0, 1, 0, 0]
noncomputable def K10 (k n1 : Nat) : C := loopD E h k c4 (K9 k) n1
noncomputable def c5 : Code := subC b [1, 1, 0, 1, 0, 0, 1]
noncomputable def K11 (k n1 : Nat) : C := outD h c5 (K10 k n1)
noncomputable def K12 (k n1 : Nat) : C := seqC E h k c5 (K10 k n1)
noncomputable def c6 : Code := subC b [1, 1, 0, 1, 0, 0, 1, 1]
noncomputable def K13 (k n1 : Nat) : C := outD h c6 (K11 k n1)
noncomputable def K14 (k n1 : Nat) : C := seqC E h k c6 (K11 k n1)
noncomputable def c7 : Code := subC b [1, 1, 0, 1, 0, 0, 1, 1, 1]
noncomputable def K15 (k n1 : Nat) : C := outD h c7 (K13 k n1)
noncomputable def K16 (k n1 : Nat) : C := seqC E h k c7 (K13 k n1)
noncomputable def K17 (k n1 : Nat) : C := blockK 1 (K16 k n1)
noncomputable def c8 : Code := subC b [1, 1, 0, 1, 0, 0, 1, 1, 0, 0, 1]
noncomputable def K18 (k n1 : Nat) : C := outD h c8 (K17 k n1)
noncomputable def K19 (k n1 : Nat) : C := seqC E h k c8 (K17 k n1)
noncomputable def c9 : Code := subC b [1, 1, 0, 1, 0, 0, 1, 1, 0, 0, 1, 1]
noncomputable def K20 (k n1 : Nat) : C := outD h c9 (K18 k n1)
noncomputable def K21 (k n1 : Nat) : C := seqC E h k c9 (K18 k n1)
noncomputable def c10 : Code := subC b [1, 1, 1, 1]
noncomputable def K22 (k : Nat) : C := outD h c10 (K5 k)
noncomputable def K23 (k : Nat) : C := seqC E h k c10 (K5 k)
abbrev T2 := (List UInt8) → Int → Int → Int → R
abbrev T3 := Int → R
abbrev T1 := (List UInt8) → Int → Int → Int → R
abbrev T0 := (List UInt8) → R
abbrev s2 : (List UInt8) → Int → Int → Int → ST cx := fun (x0 : List UInt8) (x3 x6 x7 : Int) => ({ vars := [(0, .v .str .ro x0), (3, .v (.int .i64) .ro x3), (6, .v (.int .i64) .ro x6), (7, .v (.int .i64) .ro x7)], scr := [], mems := [] } : ST cx)
noncomputable def u2 (k n1 : Nat) : T2 := fun (x0 : List UInt8) (x3 x6 x7 : Int) => runP E h k c7 (s2 x0 x3 x6 x7) (K15 k n1)
noncomputable abbrev l2 (k n1 : Nat) : T2 := fun (x0 : List UInt8) (x3 x6 x7 : Int) => cutK (run E h k c7) (s2 x0 x3 x6 x7) (K15 k n1)
abbrev s3 : Int → ST cx := fun (x3 : Int) => ({ vars := [(3, .v (.int .i64) .ro x3)], scr := [], mems := [] } : ST cx)
noncomputable def u3 (k : Nat) : T3 := fun (x3 : Int) => runP E h k c2 (s3 x3) (K5 k)
noncomputable abbrev l3 (k : Nat) : T3 := fun (x3 : Int) => cutK (run E h k c2) (s3 x3) (K5 k)
abbrev s1 : (List UInt8) → Int → Int → Int → ST cx := fun (x0 : List UInt8) (x3 x6 x7 : Int) => ({ vars := [(0, .v .str .ro x0), (3, .v (.int .i64) .ro x3), (6, .v (.int .i64) .ro x6), (7, .v (.int .i64) .ro x7)], scr := [], mems := [] } : ST cx)
noncomputable def u1 (k n1 : Nat) : T1 := fun (x0 : List UInt8) (x3 x6 x7 : Int) => loopP E h k c4 (K9 k) n1 (s1 x0 x3 x6 x7)
noncomputable abbrev l1 (k n1 : Nat) : T1 := fun (x0 : List UInt8) (x3 x6 x7 : Int) => cutK (loopL E h k c4 (K9 k) n1) (s1 x0 x3 x6 x7) ()
noncomputable def u0 (k : Nat) : T0 := fun (x0 : List UInt8) => runOf (S := cx) E h k Try.f19 [.val .str] (.int .i64) .ro (x0, ())
def t2 (f1 : T1) : T2 := fun (x0 : List UInt8) (x3 x6 x7 : Int) => 
  (f1 x0 x3 x6 (w64 (x7 + (1 : Int))))
theorem e2 (k n1 : Nat) : u2 k n1 = t2 (l1 k n1) := by kernel_rfl
def p2 (k : Nat) (a1 : T1) : T2 := t2 a1
theorem o2 (k n1 : Nat) (a1 : T1) (h1 : l1 k n1 = a1) : l2 k n1 = p2 k a1 := by rw [show l2 k n1 = u2 k n1 from by kernel_rfl, e2, h1]; rfl
def t3 : T3 := fun (x3 : Int) => 
  (some (x3, ()))
theorem e3 (k : Nat) : u3 k = t3 := by kernel_rfl
def p3 (k : Nat) : T3 := t3
theorem o3 (k : Nat) : l3 k = p3 k := by rw [show l3 k = u3 k from by kernel_rfl, e3]; rfl
def t1 (f2 : T2) (f3 : T3) : T1 := fun (x0 : List UInt8) (x3 x6 x7 : Int) => 
  (iteB (decide (x7 < x6)) (withinR x7 (List.length x0) fun q1 => (bindR (s_isFollower ((byteAt x0 q1), ())) fun r2 => (iteB (notB r2.1) (f2 x0 (w64 (x3 + (1 : Int))) x6 x7) (f2 x0 x3 x6 x7)))) (f3 x3))
theorem e1 (k n1 : Nat) : u1 k (n1 + 1) = t1 (l2 k n1) (l3 k) := by kernel_rfl
def p1 (k : Nat) : Nat → T1
  | 0 => fun _ _ _ _ => none
  | n1 + 1 => t1 (p2 k (p1 k n1)) (p3 k)
theorem o1 (k : Nat) : ∀ n1, l1 k n1 = p1 k n1
  | 0 => rfl
  | n1 + 1 => by rw [show l1 k (n1 + 1) = u1 k (n1 + 1) from by kernel_rfl, e1, (o2 k n1 (p1 k n1) (o1 k n1)), (o3 k)]; rfl
def t0 (f1 : T1) : T0 := fun (x0 : List UInt8) => 
  (f1 x0 (0 : Int) ((List.length x0 : Nat) : Int) (0 : Int))
theorem e0 (k : Nat) : u0 k = t0 (l1 k k) := by kernel_rfl
def p0 (k : Nat) : T0 := t0 (p1 k k)
theorem o0 (k : Nat) : u0 k = p0 k := by rw [e0, (o1 k k)]; rfl
end count
def s_count (a : (List UInt8) × (Unit)) : Option ((Int) × (Unit)) := count.p0 (List.length a.1 + 10) a.1
noncomputable def F_count : FSpec cx.toNm := { ps := [.val .str], nres := 1, rt := (.int .i64), rm := .ro, f := s_count }
theorem ok_count : FnOk Try.prog F_count 19 := fn_of (hn := count.h) (E := count.E) cxOk (tysT _) (fs_cons ok_isFollower fs_nil) follows Try.func19 (by kernel_rfl) (fun a r h => ⟨List.length a.1 + 10, (congrFun (count.o0 (List.length a.1 + 10)) a.1).trans h⟩)
namespace cut
noncomputable def E : Env cx := { tys := tys, fs := fsOf [(23, F_isFollower)] }
abbrev R := Option ((Int) × (Unit))
abbrev C := Exit → ST cx → R
noncomputable def b : Code := bodyC Try.f20
noncomputable def h : Hint := { vs := [0, 1, 4, 5, 9, 10], nil := [], cuts := [(4, ([0, 1, 9, 10], []), ([0], [])), (10, ([0, 1, 9, 10], []), ([0, 1, 9, 10], [])), (11, ([0], []), ([0], []))], ret := ([4], []), ords := [] }
noncomputable def K0 : C := fin (S := cx) E Try.f20.results.toList (.int .i64) .ro [] []
noncomputable def c0 : Code := subC b [1]
noncomputable def K1 (k : Nat) : C := outD h c0 K0
noncomputable def K2 (k : Nat) : C := seqC E h k c0 K0
noncomputable def c1 : Code := subC b [1, 1]
noncomputable def K3 (k : Nat) : C := outD h c1 (K1 k)
noncomputable def K4 (k : Nat) : C := seqC E h k c1 (K1 k)
noncomputable def c2 : Code := subC b [1, 0, 1]
noncomputable def K5 (k : Nat) : C := outD h c2 (K4 k)
noncomputable def K6 (k : Nat) : C := seqC E h k c2 (K4 k)
noncomputable def c3 : Code := subC b [1, 0, 1, 0, 1]
noncomputable def K7 (k : Nat) : C := outD h c3 (K5 k)
noncomputable def K8 (k : Nat) : C := seqC E h k c3 (K5 k)
noncomputable def c4 : Code := subC b [1, 1, 1]
noncomputable def K9 (k : Nat) : C := outD h c4 (K3 k)
noncomputable def K10 (k : Nat) : C := seqC E h k c4 (K3 k)
noncomputable def c5 : Code := subC b [1, 1, 0, 1]
noncomputable def K11 (k : Nat) : C := outD h c5 (K10 k)
noncomputable def K12 (k : Nat) : C := seqC E h k c5 (K10 k)
noncomputable def K13 (k : Nat) : C := blockK 0 (K11 k)
noncomputable def c6 : Code := subC b [1, 1, 0, 1, 0, 0]
noncomputable def K14 (k n1 : Nat) : C := loopD E h k c6 (K13 k) n1
noncomputable def c7 : Code := subC b [1, 1, 0, 1, 0, 0, 1]
noncomputable def K15 (k n1 : Nat) : C := outD h c7 (K14 k n1)
noncomputable def K16 (k n1 : Nat) : C := seqC E h k c7 (K14 k n1)
noncomputable def c8 : Code := subC b [1, 1, 0, 1, 0, 0, 1, 1]
noncomputable def K17 (k n1 : Nat) : C := outD h c8 (K15 k n1)
noncomputable def K18 (k n1 : Nat) : C := seqC E h k c8 (K15 k n1)
noncomputable def c9 : Code := subC b [1, 1, 0, 1, 0, 0, 1, 1, 1]
noncomputable def K19 (k n1 : Nat) : C := outD h c9 (K17 k n1)
noncomputable def K20 (k n1 : Nat) : C := seqC E h k c9 (K17 k n1)
noncomputable def K21 (k n1 : Nat) : C := blockK 1 (K20 k n1)
noncomputable def c10 : Code := subC b [1, 1, 0, 1, 0, 0, 1, 1, 0, 0, 1]
noncomputable def K22 (k n1 : Nat) : C := outD h c10 (K21 k n1)
noncomputable def K23 (k n1 : Nat) : C := seqC E h k c10 (K21 k n1)
noncomputable def c11 : Code := subC b [1, 1, 0, 1, 0, 0, 1, 1, 0, 0, 1, 1]
noncomputable def K24 (k n1 : Nat) : C := outD h c11 (K22 k n1)
noncomputable def K25 (k n1 : Nat) : C := seqC E h k c11 (K22 k n1)
noncomputable def c12 : Code := subC b [1, 1, 0, 1, 0, 0, 1, 1, 0, 0, 1, 0, 1]
noncomputable def K26 (k n1 : Nat) : C := outD h c12 (K25 k n1)
noncomputable def K27 (k n1 : Nat) : C := seqC E h k c12 (K25 k n1)
noncomputable def c13 : Code := subC b [1, 1, 0, 1, 0, 0, 1, 1, 0, 0, 1, 1, 1]
noncomputable def K28 (k n1 : Nat) : C := outD h c13 (K24 k n1)
noncomputable def K29 (k n1 : Nat) : C := seqC E h k c13 (K24 k n1)
noncomputable def c14 : Code := subC b [1, 1, 0, 1, 0, 0, 1, 1, 0, 0, 1, 1, 0, 1]
noncomputable def K30 (k n1 : Nat) : C := outD h c14 (K29 k n1)
noncomputable def K31 (k n1 : Nat) : C := seqC E h k c14 (K29 k n1)
noncomputable def c15 : Code := subC b [1, 1, 0, 1, 0, 0, 1, 1, 0, 0, 1, 1, 0, 1, 0, 1]
noncomputable def K32 (k n1 : Nat) : C := outD h c15 (K30 k n1)
noncomputable def K33 (k n1 : Nat) : C := seqC E h k c15 (K30 k n1)
noncomputable def c16 : Code := subC b [1, 1, 1, 1]
noncomputable def K34 (k : Nat) : C := outD h c16 (K9 k)
noncomputable def K35 (k : Nat) : C := seqC E h k c16 (K9 k)
abbrev T2 := (List UInt8) → Int → Int → Int → R
abbrev T3 := (List UInt8) → R
abbrev T1 := (List UInt8) → Int → Int → Int → R
abbrev T0 := (List UInt8) → Int → R
abbrev s2 : (List UInt8) → Int → Int → Int → ST cx := fun (x0 : List UInt8) (x1 x9 x10 : Int) => ({ vars := [(0, .v .str .ro x0), (1, .v (.int .i64) .ro x1), (9, .v (.int .i64) .ro x9), (10, .v (.int .i64) .ro x10)], scr := [], mems := [] } : ST cx)
noncomputable def u2 (k n1 : Nat) : T2 := fun (x0 : List UInt8) (x1 x9 x10 : Int) => runP E h k c9 (s2 x0 x1 x9 x10) (K19 k n1)
noncomputable abbrev l2 (k n1 : Nat) : T2 := fun (x0 : List UInt8) (x1 x9 x10 : Int) => cutK (run E h k c9) (s2 x0 x1 x9 x10) (K19 k n1)
abbrev s3 : (List UInt8) → ST cx := fun (x0 : List UInt8) => ({ vars := [(0, .v .str .ro x0)], scr := [], mems := [] } : ST cx)
noncomputable def u3 (k : Nat) : T3 := fun (x0 : List UInt8) => runP E h k c4 (s3 x0) (K9 k)
noncomputable abbrev l3 (k : Nat) : T3 := fun (x0 : List UInt8) => cutK (run E h k c4) (s3 x0) (K9 k)
abbrev s1 : (List UInt8) → Int → Int → Int → ST cx := fun (x0 : List UInt8) (x1 x9 x10 : Int) => ({ vars := [(0, .v .str .ro x0), (1, .v (.int .i64) .ro x1), (9, .v (.int .i64) .ro x9), (10, .v (.int .i64) .ro x10)], scr := [], mems := [] } : ST cx)
noncomputable def u1 (k n1 : Nat) : T1 := fun (x0 : List UInt8) (x1 x9 x10 : Int) => loopP E h k c6 (K13 k) n1 (s1 x0 x1 x9 x10)
noncomputable abbrev l1 (k n1 : Nat) : T1 := fun (x0 : List UInt8) (x1 x9 x10 : Int) => cutK (loopL E h k c6 (K13 k) n1) (s1 x0 x1 x9 x10) ()
noncomputable def u0 (k : Nat) : T0 := fun (x0 : List UInt8) (x1 : Int) => runOf (S := cx) E h k Try.f20 [.val .str, .val (.int .i64)] (.int .i64) .ro (x0, x1, ())
def t2 (f1 : T1) : T2 := fun (x0 : List UInt8) (x1 x9 x10 : Int) => 
  (f1 x0 x1 x9 (w64 (x10 + (1 : Int))))
theorem e2 (k n1 : Nat) : u2 k n1 = t2 (l1 k n1) := by kernel_rfl
def p2 (k : Nat) (a1 : T1) : T2 := t2 a1
theorem o2 (k n1 : Nat) (a1 : T1) (h1 : l1 k n1 = a1) : l2 k n1 = p2 k a1 := by rw [show l2 k n1 = u2 k n1 from by kernel_rfl, e2, h1]; rfl
def t3 : T3 := fun (x0 : List UInt8) => 
  (some (((List.length x0 : Nat) : Int), ()))
theorem e3 (k : Nat) : u3 k = t3 := by kernel_rfl
def p3 (k : Nat) : T3 := t3
theorem o3 (k : Nat) : l3 k = p3 k := by rw [show l3 k = u3 k from by kernel_rfl, e3]; rfl
def t1 (f2 : T2) (f3 : T3) : T1 := fun (x0 : List UInt8) (x1 x9 x10 : Int) => 
  (iteB (decide (x10 < x9)) (withinR x10 (List.length x0) fun q1 => (bindR (s_isFollower ((byteAt x0 q1), ())) fun r2 => (iteB r2.1 (f2 x0 x1 x9 x10) (iteB (decide (x1 = (0 : Int))) (some (x10, ())) (f2 x0 (w64 (x1 - (1 : Int))) x9 x10))))) (f3 x0))
theorem e1 (k n1 : Nat) : u1 k (n1 + 1) = t1 (l2 k n1) (l3 k) := by kernel_rfl
def p1 (k : Nat) : Nat → T1
  | 0 => fun _ _ _ _ => none
  | n1 + 1 => t1 (p2 k (p1 k n1)) (p3 k)
theorem o1 (k : Nat) : ∀ n1, l1 k n1 = p1 k n1
  | 0 => rfl
  | n1 + 1 => by rw [show l1 k (n1 + 1) = u1 k (n1 + 1) from by kernel_rfl, e1, (o2 k n1 (p1 k n1) (o1 k n1)), (o3 k)]; rfl
def t0 (f1 : T1) : T0 := fun (x0 : List UInt8) (x1 : Int) => 
  (iteB (decide (x1 < (0 : Int))) (some ((0 : Int), ())) (f1 x0 x1 ((List.length x0 : Nat) : Int) (0 : Int)))
theorem e0 (k : Nat) : u0 k = t0 (l1 k k) := by kernel_rfl
def p0 (k : Nat) : T0 := t0 (p1 k k)
theorem o0 (k : Nat) : u0 k = p0 k := by rw [e0, (o1 k k)]; rfl
end cut
def s_cut (a : (List UInt8) × ((Int) × (Unit))) : Option ((Int) × (Unit)) := cut.p0 (List.length a.1 + 10) a.1 a.2.1
noncomputable def F_cut : FSpec cx.toNm := { ps := [.val .str, .val (.int .i64)], nres := 1, rt := (.int .i64), rm := .ro, f := s_cut }
theorem ok_cut : FnOk Try.prog F_cut 20 := fn_of (hn := cut.h) (E := cut.E) cxOk (tysT _) (fs_cons ok_isFollower fs_nil) follows Try.func20 (by kernel_rfl) (fun a r h => ⟨List.length a.1 + 10, (congrFun (congrFun (cut.o0 (List.length a.1 + 10)) a.1) a.2.1).trans h⟩)
namespace rcount
noncomputable def E : Env cx := { tys := tys, fs := fsOf [(26, F_follower)] }
abbrev R := Option ((Int) × (Unit))
abbrev C := Exit → ST cx → R
noncomputable def b : Code := bodyC Try.f21
noncomputable def h : Hint := { vs := [0, 2, 3, 4], nil := [], cuts := [(3, ([0, 3, 4], []), ([3], [])), (4, ([0, 3, 4], []), ([0, 3, 4], [])), (7, ([3], []), ([3], []))], ret := ([2], []), ords := [] }
noncomputable def K0 : C := fin (S := cx) E Try.f21.results.toList (.int .i64) .ro [] []
noncomputable def c0 : Code := subC b [1]
noncomputable def K1 (k : Nat) : C := outD h c0 K0
noncomputable def K2 (k : Nat) : C := seqC E h k c0 K0
noncomputable def c1 : Code := subC b [1, 1]
noncomputable def K3 (k : Nat) : C := outD h c1 (K1 k)
noncomputable def K4 (k : Nat) : C := seqC E h k c1 (K1 k)
noncomputable def c2 : Code := subC b [1, 1, 1]
noncomputable def K5 (k : Nat) : C := outD h c2 (K3 k)
noncomputable def K6 (k : Nat) : C := seqC E h k c2 (K3 k)
noncomputable def c3 : Code := subC b [1, 1, 0, 1]
noncomputable def K7 (k : Nat) : C := outD h c3 (K6 k)
noncomputable def K8 (k : Nat) : C := seqC E h k c3 (K6 k)
noncomputable def K9 (k : Nat) : C := blockK 0 (K7 k)
noncomputable def c4 : Code := subC b [1, 1, 0, 1, 0, 0]
noncomputable def K10 (k n1 : Nat) : C := loopD E h k c4 (K9 k) n1
noncomputable def c5 : Code := subC b [1, 1, 0, 1, 0, 0, 1]
noncomputable def K11 (k n1 : Nat) : C := outD h c5 (K10 k n1)
noncomputable def K12 (k n1 : Nat) : C := seqC E h k c5 (K10 k n1)
noncomputable def c6 : Code := subC b [1, 1, 0, 1, 0, 0, 0, 1]
noncomputable def K13 (k n1 : Nat) : C := outD h c6 (K12 k n1)
noncomputable def K14 (k n1 : Nat) : C := seqC E h k c6 (K12 k n1)
noncomputable def c7 : Code := subC b [1, 1, 0, 1, 0, 0, 1, 1]
noncomputable def K15 (k n1 : Nat) : C := outD h c7 (K11 k n1)
noncomputable def K16 (k n1 : Nat) : C := seqC E h k c7 (K11 k n1)
noncomputable def K17 (k n1 : Nat) : C := blockK 1 (K16 k n1)
noncomputable def c8 : Code := subC b [1, 1, 0, 1, 0, 0, 1, 0, 0, 1]
noncomputable def K18 (k n1 : Nat) : C := outD h c8 (K17 k n1)
noncomputable def K19 (k n1 : Nat) : C := seqC E h k c8 (K17 k n1)
noncomputable def c9 : Code := subC b [1, 1, 1, 1]
noncomputable def K20 (k : Nat) : C := outD h c9 (K5 k)
noncomputable def K21 (k : Nat) : C := seqC E h k c9 (K5 k)
abbrev T2 := (List UInt8) → Int → Int → R
abbrev T3 := Int → R
abbrev T1 := (List UInt8) → Int → Int → R
abbrev T0 := (List UInt8) → R
abbrev s2 : (List UInt8) → Int → Int → ST cx := fun (x0 : List UInt8) (x3 x4 : Int) => ({ vars := [(0, .v .str .ro x0), (3, .v (.int .i64) .ro x3), (4, .v (.int .i64) .ro x4)], scr := [], mems := [] } : ST cx)
noncomputable def u2 (k n1 : Nat) : T2 := fun (x0 : List UInt8) (x3 x4 : Int) => runP E h k c7 (s2 x0 x3 x4) (K15 k n1)
noncomputable abbrev l2 (k n1 : Nat) : T2 := fun (x0 : List UInt8) (x3 x4 : Int) => cutK (run E h k c7) (s2 x0 x3 x4) (K15 k n1)
abbrev s3 : Int → ST cx := fun (x3 : Int) => ({ vars := [(3, .v (.int .i64) .ro x3)], scr := [], mems := [] } : ST cx)
noncomputable def u3 (k : Nat) : T3 := fun (x3 : Int) => runP E h k c2 (s3 x3) (K5 k)
noncomputable abbrev l3 (k : Nat) : T3 := fun (x3 : Int) => cutK (run E h k c2) (s3 x3) (K5 k)
abbrev s1 : (List UInt8) → Int → Int → ST cx := fun (x0 : List UInt8) (x3 x4 : Int) => ({ vars := [(0, .v .str .ro x0), (3, .v (.int .i64) .ro x3), (4, .v (.int .i64) .ro x4)], scr := [], mems := [] } : ST cx)
noncomputable def u1 (k n1 : Nat) : T1 := fun (x0 : List UInt8) (x3 x4 : Int) => loopP E h k c4 (K9 k) n1 (s1 x0 x3 x4)
noncomputable abbrev l1 (k n1 : Nat) : T1 := fun (x0 : List UInt8) (x3 x4 : Int) => cutK (loopL E h k c4 (K9 k) n1) (s1 x0 x3 x4) ()
noncomputable def u0 (k : Nat) : T0 := fun (x0 : List UInt8) => runOf (S := cx) E h k Try.f21 [.val .str] (.int .i64) .ro (x0, ())
def t2 (f1 : T1) : T2 := fun (x0 : List UInt8) (x3 x4 : Int) => 
  (f1 x0 x3 (w64 (x4 + (1 : Int))))
theorem e2 (k n1 : Nat) : u2 k n1 = t2 (l1 k n1) := by kernel_rfl
def p2 (k : Nat) (a1 : T1) : T2 := t2 a1
theorem o2 (k n1 : Nat) (a1 : T1) (h1 : l1 k n1 = a1) : l2 k n1 = p2 k a1 := by rw [show l2 k n1 = u2 k n1 from by kernel_rfl, e2, h1]; rfl
def t3 : T3 := fun (x3 : Int) => 
  (some (x3, ()))
theorem e3 (k : Nat) : u3 k = t3 := by kernel_rfl
def p3 (k : Nat) : T3 := t3
theorem o3 (k : Nat) : l3 k = p3 k := by rw [show l3 k = u3 k from by kernel_rfl, e3]; rfl
def t1 (f2 : T2) (f3 : T3) : T1 := fun (x0 : List UInt8) (x3 x4 : Int) => 
  (iteB (decide (x4 < ((List.length x0 : Nat) : Int))) (withinR x4 (List.length x0) fun q1 => (bindR (s_follower ((byteAt x0 q1), ())) fun r2 => (iteB (notB r2.1) (f2 x0 (w64 (x3 + (1 : Int))) x4) (f2 x0 x3 x4)))) (f3 x3))
theorem e1 (k n1 : Nat) : u1 k (n1 + 1) = t1 (l2 k n1) (l3 k) := by kernel_rfl
def p1 (k : Nat) : Nat → T1
  | 0 => fun _ _ _ => none
  | n1 + 1 => t1 (p2 k (p1 k n1)) (p3 k)
theorem o1 (k : Nat) : ∀ n1, l1 k n1 = p1 k n1
  | 0 => rfl
  | n1 + 1 => by rw [show l1 k (n1 + 1) = u1 k (n1 + 1) from by kernel_rfl, e1, (o2 k n1 (p1 k n1) (o1 k n1)), (o3 k)]; rfl
def t0 (f1 : T1) : T0 := fun (x0 : List UInt8) => 
  (f1 x0 (0 : Int) (0 : Int))
theorem e0 (k : Nat) : u0 k = t0 (l1 k k) := by kernel_rfl
def p0 (k : Nat) : T0 := t0 (p1 k k)
theorem o0 (k : Nat) : u0 k = p0 k := by rw [e0, (o1 k k)]; rfl
end rcount
def s_rcount (a : (List UInt8) × (Unit)) : Option ((Int) × (Unit)) := rcount.p0 (List.length a.1 + 10) a.1
noncomputable def F_rcount : FSpec cx.toNm := { ps := [.val .str], nres := 1, rt := (.int .i64), rm := .ro, f := s_rcount }
theorem ok_rcount : FnOk Try.prog F_rcount 21 := fn_of (hn := rcount.h) (E := rcount.E) cxOk (tysT _) (fs_cons ok_follower fs_nil) follows Try.func21 (by kernel_rfl) (fun a r h => ⟨List.length a.1 + 10, (congrFun (rcount.o0 (List.length a.1 + 10)) a.1).trans h⟩)
namespace redge
noncomputable def E : Env cx := { tys := tys, fs := fsOf [(26, F_follower)] }
abbrev R := Option ((Bool) × (Unit))
abbrev C := Exit → ST cx → R
noncomputable def b : Code := bodyC Try.f16
noncomputable def h : Hint := { vs := [0, 1, 4], nil := [], cuts := [(2, ([0, 1, 12], []), ([0, 1], [])), (3, ([0, 1], []), ([0, 1], []))], ret := ([4], []), ords := [] }
noncomputable def K0 : C := fin (S := cx) E Try.f16.results.toList .bool .ro [] []
noncomputable def c0 : Code := subC b [1]
noncomputable def K1 (k : Nat) : C := outD h c0 K0
noncomputable def K2 (k : Nat) : C := seqC E h k c0 K0
noncomputable def c1 : Code := subC b [1, 1]
noncomputable def K3 (k : Nat) : C := outD h c1 (K1 k)
noncomputable def K4 (k : Nat) : C := seqC E h k c1 (K1 k)
noncomputable def c2 : Code := subC b [1, 0, 1]
noncomputable def K5 (k : Nat) : C := outD h c2 (K4 k)
noncomputable def K6 (k : Nat) : C := seqC E h k c2 (K4 k)
noncomputable def c3 : Code := subC b [1, 0, 1, 0, 1]
noncomputable def K7 (k : Nat) : C := outD h c3 (K5 k)
noncomputable def K8 (k : Nat) : C := seqC E h k c3 (K5 k)
noncomputable def c4 : Code := subC b [1, 1, 1]
noncomputable def K9 (k : Nat) : C := outD h c4 (K3 k)
noncomputable def K10 (k : Nat) : C := seqC E h k c4 (K3 k)
abbrev T2 := (List UInt8) → Int → R
abbrev T1 := (List UInt8) → Int → Bool → R
abbrev T0 := (List UInt8) → Int → R
abbrev s2 : (List UInt8) → Int → ST cx := fun (x0 : List UInt8) (x1 : Int) => ({ vars := [(0, .v .str .ro x0), (1, .v (.int .i64) .ro x1)], scr := [], mems := [] } : ST cx)
noncomputable def u2 (k : Nat) : T2 := fun (x0 : List UInt8) (x1 : Int) => runP E h k c1 (s2 x0 x1) (K3 k)
noncomputable abbrev l2 (k : Nat) : T2 := fun (x0 : List UInt8) (x1 : Int) => cutK (run E h k c1) (s2 x0 x1) (K3 k)
abbrev s1 : (List UInt8) → Int → Bool → ST cx := fun (x0 : List UInt8) (x1 : Int) (x12 : Bool) => ({ vars := [(0, .v .str .ro x0), (1, .v (.int .i64) .ro x1), (12, .v .bool .ro x12)], scr := [], mems := [] } : ST cx)
noncomputable def u1 (k : Nat) : T1 := fun (x0 : List UInt8) (x1 : Int) (x12 : Bool) => runP E h k c2 (s1 x0 x1 x12) (K5 k)
noncomputable abbrev l1 (k : Nat) : T1 := fun (x0 : List UInt8) (x1 : Int) (x12 : Bool) => cutK (run E h k c2) (s1 x0 x1 x12) (K5 k)
noncomputable def u0 (k : Nat) : T0 := fun (x0 : List UInt8) (x1 : Int) => runOf (S := cx) E h k Try.f16 [.val .str, .val (.int .i64)] .bool .ro (x0, x1, ())
def t2 : T2 := fun (x0 : List UInt8) (x1 : Int) => 
  (iteB (decide (x1 = ((List.length x0 : Nat) : Int))) (some (true, ())) (withinR x1 (List.length x0) fun q1 => (bindR (s_follower ((byteAt x0 q1), ())) fun r2 => (some ((notB r2.1), ())))))
theorem e2 (k : Nat) : u2 k = t2 := by kernel_rfl
def p2 (k : Nat) : T2 := t2
theorem o2 (k : Nat) : l2 k = p2 k := by rw [show l2 k = u2 k from by kernel_rfl, e2]; rfl
def t1 (f2 : T2) : T1 := fun (x0 : List UInt8) (x1 : Int) (x12 : Bool) => 
  (iteB x12 (some (false, ())) (f2 x0 x1))
theorem e1 (k : Nat) : u1 k = t1 (l2 k) := by kernel_rfl
def p1 (k : Nat) : T1 := t1 (p2 k)
theorem o1 (k : Nat) : l1 k = p1 k := by rw [show l1 k = u1 k from by kernel_rfl, e1, (o2 k)]; rfl
def t0 (f1 : T1) : T0 := fun (x0 : List UInt8) (x1 : Int) => 
  (iteB (decide (x1 < (0 : Int))) (f1 x0 x1 true) (f1 x0 x1 (decide (((List.length x0 : Nat) : Int) < x1))))
theorem e0 (k : Nat) : u0 k = t0 (l1 k) := by kernel_rfl
def p0 (k : Nat) : T0 := t0 (p1 k)
theorem o0 (k : Nat) : u0 k = p0 k := by rw [e0, (o1 k)]; rfl
end redge
def s_redge (a : (List UInt8) × ((Int) × (Unit))) : Option ((Bool) × (Unit)) := redge.p0 (0) a.1 a.2.1
noncomputable def F_redge : FSpec cx.toNm := { ps := [.val .str, .val (.int .i64)], nres := 1, rt := .bool, rm := .ro, f := s_redge }
theorem ok_redge : FnOk Try.prog F_redge 16 := fn_of (hn := redge.h) (E := redge.E) cxOk (tysT _) (fs_cons ok_follower fs_nil) follows Try.func16 (by kernel_rfl) (fun a r h => ⟨0, (congrFun (congrFun (redge.o0 (0)) a.1) a.2.1).trans h⟩)
namespace rwhole
noncomputable def E : Env cx := { tys := tys, fs := fsOf [(9, F_rfirst)] }
abbrev R := Option ((Bool) × (Unit))
abbrev C := Exit → ST cx → R
noncomputable def b : Code := bodyC Try.f14
noncomputable def h : Hint := { vs := [0, 2, 4], nil := [], cuts := [(1, ([0], []), ([0], [])), (6, ([], []), ([], []))], ret := ([2], []), ords := [] }
noncomputable def K0 : C := fin (S := cx) E Try.f14.results.toList .bool .ro [] []
noncomputable def c0 : Code := subC b [1]
noncomputable def K1 (k : Nat) : C := outD h c0 K0
noncomputable def K2 (k : Nat) : C := seqC E h k c0 K0
noncomputable def c1 : Code := subC b [1, 1]
noncomputable def K3 (k : Nat) : C := outD h c1 (K1 k)
noncomputable def K4 (k : Nat) : C := seqC E h k c1 (K1 k)
noncomputable def K5 (k : Nat) : C := blockK 0 (K4 k)
noncomputable def c2 : Code := subC b [1, 0, 0, 0]
noncomputable def K6 (k n1 : Nat) : C := loopD E h k c2 (K5 k) n1
noncomputable def c3 : Code := subC b [1, 0, 0, 0, 1]
noncomputable def K7 (k n1 : Nat) : C := outD h c3 (K6 k n1)
noncomputable def K8 (k n1 : Nat) : C := seqC E h k c3 (K6 k n1)
noncomputable def c4 : Code := subC b [1, 0, 0, 0, 0, 1]
noncomputable def K9 (k n1 : Nat) : C := outD h c4 (K8 k n1)
noncomputable def K10 (k n1 : Nat) : C := seqC E h k c4 (K8 k n1)
noncomputable def K11 (k n1 : Nat) : C := blockK 1 (K7 k n1)
noncomputable def c5 : Code := subC b [1, 0, 0, 0, 1, 0, 1]
noncomputable def K12 (k n1 : Nat) : C := outD h c5 (K11 k n1)
noncomputable def K13 (k n1 : Nat) : C := seqC E h k c5 (K11 k n1)
noncomputable def c6 : Code := subC b [1, 0, 0, 0, 1, 0, 1, 1]
noncomputable def K14 (k n1 : Nat) : C := outD h c6 (K12 k n1)
noncomputable def K15 (k n1 : Nat) : C := seqC E h k c6 (K12 k n1)
noncomputable def c7 : Code := subC b [1, 0, 0, 0, 1, 0, 1, 0, 1]
noncomputable def K16 (k n1 : Nat) : C := outD h c7 (K15 k n1)
noncomputable def K17 (k n1 : Nat) : C := seqC E h k c7 (K15 k n1)
noncomputable def c8 : Code := subC b [1, 0, 0, 0, 1, 0, 1, 0, 1, 0, 1]
noncomputable def K18 (k n1 : Nat) : C := outD h c8 (K16 k n1)
noncomputable def K19 (k n1 : Nat) : C := seqC E h k c8 (K16 k n1)
noncomputable def c9 : Code := subC b [1, 1, 1]
noncomputable def K20 (k : Nat) : C := outD h c9 (K3 k)
noncomputable def K21 (k : Nat) : C := seqC E h k c9 (K3 k)
abbrev T2 := R
abbrev T1 := (List UInt8) → R
abbrev T0 := (List UInt8) → R
abbrev s2 : ST cx := ({ vars := [], scr := [], mems := [] } : ST cx)
noncomputable def u2 (k : Nat) : T2 := runP E h k c1 s2 (K3 k)
noncomputable abbrev l2 (k : Nat) : T2 := cutK (run E h k c1) s2 (K3 k)
abbrev s1 : (List UInt8) → ST cx := fun (x0 : List UInt8) => ({ vars := [(0, .v .str .ro x0)], scr := [], mems := [] } : ST cx)
noncomputable def u1 (k n1 : Nat) : T1 := fun (x0 : List UInt8) => loopP E h k c2 (K5 k) n1 (s1 x0)
noncomputable abbrev l1 (k n1 : Nat) : T1 := fun (x0 : List UInt8) => cutK (loopL E h k c2 (K5 k) n1) (s1 x0) ()
noncomputable def u0 (k : Nat) : T0 := fun (x0 : List UInt8) => runOf (S := cx) E h k Try.f14 [.val .str] .bool .ro (x0, ())
def t2 : T2 := 
  (some (true, ()))
theorem e2 (k : Nat) : u2 k = t2 := by kernel_rfl
def p2 (k : Nat) : T2 := t2
theorem o2 (k : Nat) : l2 k = p2 k := by rw [show l2 k = u2 k from by kernel_rfl, e2]; rfl
def t1 (f1 : T1) (f2 : T2) : T1 := fun (x0 : List UInt8) => 
  (iteB (decide ((0 : Int) < ((List.length x0 : Nat) : Int))) (bindR (s_rfirst (x0, ())) fun r1 => (iteB (decide (r1.1.2 = (0 : Int))) (some (false, ())) (mustR (decide (0 ≤ r1.1.2)) (mustR (decide (r1.1.2 ≤ (((List.length x0) : Nat) : Int))) (f1 (List.drop (Int.toNat r1.1.2) (List.take (List.length x0) x0))))))) f2)
theorem e1 (k n1 : Nat) : u1 k (n1 + 1) = t1 (l1 k n1) (l2 k) := by kernel_rfl
def p1 (k : Nat) : Nat → T1
  | 0 => fun _ => none
  | n1 + 1 => t1 (p1 k n1) (p2 k)
theorem o1 (k : Nat) : ∀ n1, l1 k n1 = p1 k n1
  | 0 => rfl
  | n1 + 1 => by rw [show l1 k (n1 + 1) = u1 k (n1 + 1) from by kernel_rfl, e1, (o1 k n1), (o2 k)]; rfl
def t0 (f1 : T1) : T0 := fun (x0 : List UInt8) => 
  (f1 x0)
theorem e0 (k : Nat) : u0 k = t0 (l1 k k) := by kernel_rfl
def p0 (k : Nat) : T0 := t0 (p1 k k)
theorem o0 (k : Nat) : u0 k = p0 k := by rw [e0, (o1 k k)]; rfl
end rwhole
def s_rwhole (a : (List UInt8) × (Unit)) : Option ((Bool) × (Unit)) := rwhole.p0 (List.length a.1 + 10) a.1
noncomputable def F_rwhole : FSpec cx.toNm := { ps := [.val .str], nres := 1, rt := .bool, rm := .ro, f := s_rwhole }
theorem ok_rwhole : FnOk Try.prog F_rwhole 14 := fn_of (hn := rwhole.h) (E := rwhole.E) cxOk (tysT _) (fs_cons ok_rfirst fs_nil) follows Try.func14 (by kernel_rfl) (fun a r h => ⟨List.length a.1 + 10, (congrFun (rwhole.o0 (List.length a.1 + 10)) a.1).trans h⟩)
namespace rnext
noncomputable def E : Env cx := { tys := tys, fs := fsOf [(8, F_first)] }
abbrev R := Option ((Bool) × ((List UInt8) × (Unit)))
abbrev C := Exit → ST cx → R
noncomputable def b : Code := bodyC Try.f25
noncomputable def h : Hint := { vs := [0, 2, 4], nil := [], cuts := [], ret := ([0, 2], [1000000]), ords := [] }
noncomputable def K0 : C := fin (S := cx) E Try.f25.results.toList .bool .ro [1000000] [((.agg .str), .ro)]
noncomputable def c0 : Code := subC b [1]
noncomputable def K1 (k : Nat) : C := outD h c0 K0
noncomputable def K2 (k : Nat) : C := seqC E h k c0 K0
noncomputable def c1 : Code := subC b [1, 1]
noncomputable def K3 (k : Nat) : C := outD h c1 (K1 k)
noncomputable def K4 (k : Nat) : C := seqC E h k c1 (K1 k)
noncomputable def c2 : Code := subC b [1, 1, 1]
noncomputable def K5 (k : Nat) : C := outD h c2 (K3 k)
noncomputable def K6 (k : Nat) : C := seqC E h k c2 (K3 k)
noncomputable def c3 : Code := subC b [1, 1, 1, 1]
noncomputable def K7 (k : Nat) : C := outD h c3 (K5 k)
noncomputable def K8 (k : Nat) : C := seqC E h k c3 (K5 k)
abbrev T0 := (List UInt8) → R
noncomputable def u0 (k : Nat) : T0 := fun (x0 : List UInt8) => runOf (S := cx) E h k Try.f25 [.io (.agg .str) .ro] .bool .ro (x0, ())
def t0 : T0 := fun (x0 : List UInt8) => 
  (bindR (s_first (x0, ())) fun r1 => (mustR (decide (0 ≤ r1.1.2)) (mustR (decide (r1.1.2 ≤ (((List.length x0) : Nat) : Int))) (some ((decide ((0 : Int) < r1.1.2)), ((List.drop (Int.toNat r1.1.2) (List.take (List.length x0) x0)), ()))))))
theorem e0 (k : Nat) : u0 k = t0 := by kernel_rfl
def p0 (k : Nat) : T0 := t0
theorem o0 (k : Nat) : u0 k = p0 k := by rw [e0]; rfl
end rnext
def s_rnext (a : (List UInt8) × (Unit)) : Option ((Bool) × ((List UInt8) × (Unit))) := rnext.p0 (0) a.1
noncomputable def F_rnext : FSpec cx.toNm := { ps := [.io (.agg .str) .ro], nres := 1, rt := .bool, rm := .ro, f := s_rnext }
theorem ok_rnext : FnOk Try.prog F_rnext 25 := fn_of (hn := rnext.h) (E := rnext.E) cxOk (tysT _) (fs_cons ok_first fs_nil) follows Try.func25 (by kernel_rfl) (fun a r h => ⟨0, (congrFun (rnext.o0 (0)) a.1).trans h⟩)
namespace whole
noncomputable def E : Env cx := { tys := tys, fs := fsOf [(25, F_rnext)] }
abbrev R := Option ((Bool) × (Unit))
abbrev C := Exit → ST cx → R
noncomputable def b : Code := bodyC Try.f13
noncomputable def h : Hint := { vs := [0, 2, 3], nil := [], cuts := [(2, ([3], [6]), ([3], [6])), (5, ([], []), ([], []))], ret := ([2], [6]), ords := [] }
noncomputable def K0 : C := fin (S := cx) E Try.f13.results.toList .bool .ro [] []
noncomputable def c0 : Code := subC b [1]
noncomputable def K1 (k : Nat) : C := outD h c0 K0
noncomputable def K2 (k : Nat) : C := seqC E h k c0 K0
noncomputable def c1 : Code := subC b [1, 1]
noncomputable def K3 (k : Nat) : C := outD h c1 (K1 k)
noncomputable def K4 (k : Nat) : C := seqC E h k c1 (K1 k)
noncomputable def c2 : Code := subC b [1, 1, 1]
noncomputable def K5 (k : Nat) : C := outD h c2 (K3 k)
noncomputable def K6 (k : Nat) : C := seqC E h k c2 (K3 k)
noncomputable def K7 (k : Nat) : C := blockK 0 (K6 k)
noncomputable def c3 : Code := subC b [1, 1, 0, 0, 0]
noncomputable def K8 (k n1 : Nat) : C := loopD E h k c3 (K7 k) n1
noncomputable def c4 : Code := subC b [1, 1, 0, 0, 0, 1]
noncomputable def K9 (k n1 : Nat) : C := outD h c4 (K8 k n1)
noncomputable def K10 (k n1 : Nat) : C := seqC E h k c4 (K8 k n1)
noncomputable def c5 : Code := subC b [1, 1, 0, 0, 0, 0, 1]
noncomputable def K11 (k n1 : Nat) : C := outD h c5 (K10 k n1)
noncomputable def K12 (k n1 : Nat) : C := seqC E h k c5 (K10 k n1)
noncomputable def K13 (k n1 : Nat) : C := blockK 1 (K9 k n1)
noncomputable def c6 : Code := subC b [1, 1, 0, 0, 0, 1, 0, 1]
noncomputable def K14 (k n1 : Nat) : C := outD h c6 (K13 k n1)
noncomputable def K15 (k n1 : Nat) : C := seqC E h k c6 (K13 k n1)
noncomputable def c7 : Code := subC b [1, 1, 0, 0, 0, 1, 0, 1, 0, 1]
noncomputable def K16 (k n1 : Nat) : C := outD h c7 (K14 k n1)
noncomputable def K17 (k n1 : Nat) : C := seqC E h k c7 (K14 k n1)
noncomputable def c8 : Code := subC b [1, 1, 1, 1]
noncomputable def K18 (k : Nat) : C := outD h c8 (K5 k)
noncomputable def K19 (k : Nat) : C := seqC E h k c8 (K5 k)
abbrev T2 := R
abbrev T1 := (List UInt8) → R
abbrev T0 := (List UInt8) → R
abbrev s2 : ST cx := ({ vars := [], scr := [], mems := [] } : ST cx)
noncomputable def u2 (k : Nat) : T2 := runP E h k c2 s2 (K5 k)
noncomputable abbrev l2 (k : Nat) : T2 := cutK (run E h k c2) s2 (K5 k)
abbrev s1 : (List UInt8) → ST cx := fun (m6 : List UInt8) => ({ vars := [(3, .addr (.mem 6) [])], scr := [], mems := [(6, ⟨(.agg .str), .ro, m6⟩)] } : ST cx)
noncomputable def u1 (k n1 : Nat) : T1 := fun (m6 : List UInt8) => loopP E h k c3 (K7 k) n1 (s1 m6)
noncomputable abbrev l1 (k n1 : Nat) : T1 := fun (m6 : List UInt8) => cutK (loopL E h k c3 (K7 k) n1) (s1 m6) ()
noncomputable def u0 (k : Nat) : T0 := fun (x0 : List UInt8) => runOf (S := cx) E h k Try.f13 [.val .str] .bool .ro (x0, ())
def t2 : T2 := 
  (some (true, ()))
theorem e2 (k : Nat) : u2 k = t2 := by kernel_rfl
def p2 (k : Nat) : T2 := t2
theorem o2 (k : Nat) : l2 k = p2 k := by rw [show l2 k = u2 k from by kernel_rfl, e2]; rfl
def t1 (f1 : T1) (f2 : T2) : T1 := fun (m6 : List UInt8) => 
  (iteB (!(decide (m6 = ([] : List UInt8)))) (bindR (s_rnext (m6, ())) fun r1 => (iteB (notB r1.1) (some (false, ())) (f1 r1.2.1))) f2)
theorem e1 (k n1 : Nat) : u1 k (n1 + 1) = t1 (l1 k n1) (l2 k) := by kernel_rfl
def p1 (k : Nat) : Nat → T1
  | 0 => fun _ => none
  | n1 + 1 => t1 (p1 k n1) (p2 k)
theorem o1 (k : Nat) : ∀ n1, l1 k n1 = p1 k n1
  | 0 => rfl
  | n1 + 1 => by rw [show l1 k (n1 + 1) = u1 k (n1 + 1) from by kernel_rfl, e1, (o1 k n1), (o2 k)]; rfl
def t0 (f1 : T1) : T0 := fun (x0 : List UInt8) => 
  (f1 x0)
theorem e0 (k : Nat) : u0 k = t0 (l1 k k) := by kernel_rfl
def p0 (k : Nat) : T0 := t0 (p1 k k)
theorem o0 (k : Nat) : u0 k = p0 k := by rw [e0, (o1 k k)]; rfl
end whole
def s_whole (a : (List UInt8) × (Unit)) : Option ((Bool) × (Unit)) := whole.p0 (List.length a.1 + 10) a.1
noncomputable def F_whole : FSpec cx.toNm := { ps := [.val .str], nres := 1, rt := .bool, rm := .ro, f := s_whole }
theorem ok_whole : FnOk Try.prog F_whole 13 := fn_of (hn := whole.h) (E := whole.E) cxOk (tysT _) (fs_cons ok_rnext fs_nil) follows Try.func13 (by kernel_rfl) (fun a r h => ⟨List.length a.1 + 10, (congrFun (whole.o0 (List.length a.1 + 10)) a.1).trans h⟩)
namespace alive
noncomputable def E : Env cx := { tys := tys, fs := fsOf [(8, F_first), (10, F_bytes), (13, F_whole), (15, F_edge), (17, F_next), (18, F_back), (19, F_count)] }
abbrev R := Option ((Bool) × (Unit))
abbrev C := Exit → ST cx → R
noncomputable def b : Code := bodyC Try.f7
noncomputable def h : Hint := { vs := [0, 1, 2], nil := [], cuts := [], ret := ([0], []), ords := [] }
noncomputable def K0 : C := fin (S := cx) E Try.f7.results.toList .bool .ro [] []
noncomputable def c0 : Code := subC b [1]
noncomputable def K1 (k : Nat) : C := outD h c0 K0
noncomputable def K2 (k : Nat) : C := seqC E h k c0 K0
noncomputable def c1 : Code := subC b [1, 1]
noncomputable def K3 (k : Nat) : C := outD h c1 (K1 k)
noncomputable def K4 (k : Nat) : C := seqC E h k c1 (K1 k)
noncomputable def c2 : Code := subC b [1, 1, 1]
noncomputable def K5 (k : Nat) : C := outD h c2 (K3 k)
noncomputable def K6 (k : Nat) : C := seqC E h k c2 (K3 k)
abbrev T0 := R
noncomputable def u0 (k : Nat) : T0 := runOf (S := cx) E h k Try.f7 [] .bool .ro (())
def t0 : T0 := 
  (bindR (s_first (([195, 169] : List UInt8), ())) fun r1 => (bindR (s_whole (([195, 169] : List UInt8), ())) fun r2 => (iteB r2.1 (iteB (decide (r1.1.1 = (233 : Int))) (iteB (decide (r1.1.2 = (2 : Int))) (bindR (s_edge (([195, 169] : List UInt8), ((1 : Int), ()))) fun r3 => (iteB (notB r3.1) (bindR (s_count (([97, 195, 169] : List UInt8), ())) fun r4 => (iteB (decide (r4.1 = (2 : Int))) (bindR (s_next (([97, 195, 169] : List UInt8), ((1 : Int), ()))) fun r5 => (iteB (decide (r5.1 = (3 : Int))) (bindR (s_back (([97, 195, 169] : List UInt8), ((3 : Int), ()))) fun r6 => (iteB (decide (r6.1 = (1 : Int))) (bindR (s_bytes ((8364 : Int), ())) fun r7 => (iteB (decide (r7.1 = ([226, 130, 172] : List UInt8))) (bindR (s_whole (([237, 160, 128] : List UInt8), ())) fun r8 => (some ((notB r8.1), ()))) (some (false, ())))) (some (false, ())))) (some (false, ())))) (some (false, ())))) (some (false, ())))) (some (false, ()))) (some (false, ()))) (some (false, ())))))
theorem e0 (k : Nat) : u0 k = t0 := by kernel_rfl
def p0 (k : Nat) : T0 := t0
theorem o0 (k : Nat) : u0 k = p0 k := by rw [e0]; rfl
end alive
def s_alive (a : Unit) : Option ((Bool) × (Unit)) := alive.p0 (20)
noncomputable def F_alive : FSpec cx.toNm := { ps := [], nres := 1, rt := .bool, rm := .ro, f := s_alive }
theorem ok_alive : FnOk Try.prog F_alive 7 := fn_of (hn := alive.h) (E := alive.E) cxOk (tysT _) (fs_cons ok_first (fs_cons ok_bytes (fs_cons ok_whole (fs_cons ok_edge (fs_cons ok_next (fs_cons ok_back (fs_cons ok_count fs_nil))))))) follows Try.func7 (by kernel_rfl) (fun a r h => ⟨20, (alive.o0 (20)).trans h⟩)
namespace lawWhole
noncomputable def E : Env cx := { tys := tys, fs := fsOf [(7, F_alive), (8, F_first), (9, F_rfirst), (10, F_bytes), (11, F_rsign), (12, F_rbytes), (13, F_whole), (14, F_rwhole)] }
abbrev R := Option ((Bool) × (Unit))
abbrev C := Exit → ST cx → R
noncomputable def b : Code := bodyC Try.f3
noncomputable def h : Hint := { vs := [0, 1, 4, 5, 6, 7, 8, 9, 10], nil := [], cuts := [(9, ([0, 1, 5, 6, 7, 8, 47], []), ([0, 1, 5, 6, 7, 8], [])), (10, ([0, 1, 5, 6, 7, 8], []), ([0, 1, 5, 6, 7, 8], []))], ret := ([4], []), ords := [] }
noncomputable def K0 : C := fin (S := cx) E Try.f3.results.toList .bool .ro [] []
noncomputable def c0 : Code := subC b [1]
noncomputable def K1 (k : Nat) : C := outD h c0 K0
noncomputable def K2 (k : Nat) : C := seqC E h k c0 K0
noncomputable def c1 : Code := subC b [1, 1]
noncomputable def K3 (k : Nat) : C := outD h c1 (K1 k)
noncomputable def K4 (k : Nat) : C := seqC E h k c1 (K1 k)
noncomputable def c2 : Code := subC b [1, 0, 1]
noncomputable def K5 (k : Nat) : C := outD h c2 (K4 k)
noncomputable def K6 (k : Nat) : C := seqC E h k c2 (K4 k)
noncomputable def c3 : Code := subC b [1, 0, 1, 0, 1]
noncomputable def K7 (k : Nat) : C := outD h c3 (K5 k)
noncomputable def K8 (k : Nat) : C := seqC E h k c3 (K5 k)
noncomputable def c4 : Code := subC b [1, 1, 1]
noncomputable def K9 (k : Nat) : C := outD h c4 (K3 k)
noncomputable def K10 (k : Nat) : C := seqC E h k c4 (K3 k)
noncomputable def c5 : Code := subC b [1, 1, 0, 1]
noncomputable def K11 (k : Nat) : C := outD h c5 (K10 k)
noncomputable def K12 (k : Nat) : C := seqC E h k c5 (K10 k)
noncomputable def c6 : Code := subC b [1, 1, 0, 1, 0, 1]
noncomputable def K13 (k : Nat) : C := outD h c6 (K11 k)
noncomputable def K14 (k : Nat) : C := seqC E h k c6 (K11 k)
noncomputable def c7 : Code := subC b [1, 1, 1, 1]
noncomputable def K15 (k : Nat) : C := outD h c7 (K9 k)
noncomputable def K16 (k : Nat) : C := seqC E h k c7 (K9 k)
noncomputable def c8 : Code := subC b [1, 1, 1, 1, 1]
noncomputable def K17 (k : Nat) : C := outD h c8 (K15 k)
noncomputable def K18 (k : Nat) : C := seqC E h k c8 (K15 k)
noncomputable def c9 : Code := subC b [1, 1, 1, 1, 1, 1]
noncomputable def K19 (k : Nat) : C := outD h c9 (K17 k)
noncomputable def K20 (k : Nat) : C := seqC E h k c9 (K17 k)
noncomputable def c10 : Code := subC b [1, 1, 1, 1, 1, 1, 1]
noncomputable def K21 (k : Nat) : C := outD h c10 (K19 k)
noncomputable def K22 (k : Nat) : C := seqC E h k c10 (K19 k)
noncomputable def c11 : Code := subC b [1, 1, 1, 1, 1, 1, 0, 1]
noncomputable def K23 (k : Nat) : C := outD h c11 (K22 k)
noncomputable def K24 (k : Nat) : C := seqC E h k c11 (K22 k)
noncomputable def c12 : Code := subC b [1, 1, 1, 1, 1, 1, 0, 1, 0, 1]
noncomputable def K25 (k : Nat) : C := outD h c12 (K23 k)
noncomputable def K26 (k : Nat) : C := seqC E h k c12 (K23 k)
noncomputable def c13 : Code := subC b [1, 1, 1, 1, 1, 1, 1, 1]
noncomputable def K27 (k : Nat) : C := outD h c13 (K21 k)
noncomputable def K28 (k : Nat) : C := seqC E h k c13 (K21 k)
abbrev T2 := (List UInt8) → Int → Int → Int → Int → Int → R
abbrev T1 := (List UInt8) → Int → Int → Int → Int → Int → Bool → R
abbrev T0 := (List UInt8) → Int → R
abbrev s2 : (List UInt8) → Int → Int → Int → Int → Int → ST cx := fun (x0 : List UInt8) (x1 x5 x6 x7 x8 : Int) => ({ vars := [(0, .v .str .ro x0), (1, .v (.int .i64) .ro x1), (5, .v (.int .i64) .ro x5), (6, .v (.int .i64) .ro x6), (7, .v (.int .i64) .ro x7), (8, .v (.int .i64) .ro x8)], scr := [], mems := [] } : ST cx)
noncomputable def u2 (k : Nat) : T2 := fun (x0 : List UInt8) (x1 x5 x6 x7 x8 : Int) => runP E h k c10 (s2 x0 x1 x5 x6 x7 x8) (K21 k)
noncomputable abbrev l2 (k : Nat) : T2 := fun (x0 : List UInt8) (x1 x5 x6 x7 x8 : Int) => cutK (run E h k c10) (s2 x0 x1 x5 x6 x7 x8) (K21 k)
abbrev s1 : (List UInt8) → Int → Int → Int → Int → Int → Bool → ST cx := fun (x0 : List UInt8) (x1 x5 x6 x7 x8 : Int) (x47 : Bool) => ({ vars := [(0, .v .str .ro x0), (1, .v (.int .i64) .ro x1), (5, .v (.int .i64) .ro x5), (6, .v (.int .i64) .ro x6), (7, .v (.int .i64) .ro x7), (8, .v (.int .i64) .ro x8), (47, .v .bool .ro x47)], scr := [], mems := [] } : ST cx)
noncomputable def u1 (k : Nat) : T1 := fun (x0 : List UInt8) (x1 x5 x6 x7 x8 : Int) (x47 : Bool) => runP E h k c11 (s1 x0 x1 x5 x6 x7 x8 x47) (K23 k)
noncomputable abbrev l1 (k : Nat) : T1 := fun (x0 : List UInt8) (x1 x5 x6 x7 x8 : Int) (x47 : Bool) => cutK (run E h k c11) (s1 x0 x1 x5 x6 x7 x8 x47) (K23 k)
noncomputable def u0 (k : Nat) : T0 := fun (x0 : List UInt8) (x1 : Int) => runOf (S := cx) E h k Try.f3 [.val .str, .val (.int .i64)] .bool .ro (x0, x1, ())
def t2 : T2 := fun (x0 : List UInt8) (x1 x5 x6 x7 x8 : Int) => 
  (iteB (decide (x5 = x7)) (iteB (decide (x6 = x8)) (bindR (s_whole (x0, ())) fun r8 => (bindR (s_rwhole (x0, ())) fun r9 => (iteB (r8.1 == r9.1) (bindR (s_bytes (x1, ())) fun r10 => (bindR (s_rbytes (x1, ())) fun r11 => (some ((decide (r10.1 = r11.1)), ())))) (some (false, ()))))) (some (false, ()))) (some (false, ())))
theorem e2 (k : Nat) : u2 k = t2 := by kernel_rfl
def p2 (k : Nat) : T2 := t2
theorem o2 (k : Nat) : l2 k = p2 k := by rw [show l2 k = u2 k from by kernel_rfl, e2]; rfl
def t1 (f2 : T2) : T1 := fun (x0 : List UInt8) (x1 x5 x6 x7 x8 : Int) (x47 : Bool) => 
  (iteB x47 (some (false, ())) (f2 x0 x1 x5 x6 x7 x8))
theorem e1 (k : Nat) : u1 k = t1 (l2 k) := by kernel_rfl
def p1 (k : Nat) : T1 := t1 (p2 k)
theorem o1 (k : Nat) : l1 k = p1 k := by rw [show l1 k = u1 k from by kernel_rfl, e1, (o2 k)]; rfl
def t0 (f1 : T1) : T0 := fun (x0 : List UInt8) (x1 : Int) => 
  (bindR (s_alive ()) fun r1 => (iteB (notB r1.1) (some (false, ())) (iteB (decide ((500 : Int) < ((List.length x0 : Nat) : Int))) (some (true, ())) (bindR (s_first (x0, ())) fun r2 => (bindR (s_rfirst (x0, ())) fun r3 => (bindR (s_bytes (x1, ())) fun r4 => (mustR (decide (List.length r4.1 + List.length x0 ≤ 140737488355328)) (bindR (s_first ((r4.1 ++ x0), ())) fun r5 => (bindR (s_rsign (x1, ())) fun r6 => (iteB r6.1 (iteB (!decide (r5.1.1 = x1)) (f1 x0 x1 r2.1.1 r2.1.2 r3.1.1 r3.1.2 true) (bindR (s_rbytes (x1, ())) fun r7 => (f1 x0 x1 r2.1.1 r2.1.2 r3.1.1 r3.1.2 (!decide (r5.1.2 = ((List.length r7.1 : Nat) : Int)))))) (f1 x0 x1 r2.1.1 r2.1.2 r3.1.1 r3.1.2 false)))))))))))
theorem e0 (k : Nat) : u0 k = t0 (l1 k) := by kernel_rfl
def p0 (k : Nat) : T0 := t0 (p1 k)
theorem o0 (k : Nat) : u0 k = p0 k := by rw [e0, (o1 k)]; rfl
end lawWhole
def s_lawWhole (a : (List UInt8) × ((Int) × (Unit))) : Option ((Bool) × (Unit)) := lawWhole.p0 (10) a.1 a.2.1
noncomputable def F_lawWhole : FSpec cx.toNm := { ps := [.val .str, .val (.int .i64)], nres := 1, rt := .bool, rm := .ro, f := s_lawWhole }
theorem ok_lawWhole : FnOk Try.prog F_lawWhole 3 := fn_of (hn := lawWhole.h) (E := lawWhole.E) cxOk (tysT _) (fs_cons ok_alive (fs_cons ok_first (fs_cons ok_rfirst (fs_cons ok_bytes (fs_cons ok_rsign (fs_cons ok_rbytes (fs_cons ok_whole (fs_cons ok_rwhole fs_nil)))))))) follows Try.func3 (by kernel_rfl) (fun a r h => ⟨10, (congrFun (congrFun (lawWhole.o0 (10)) a.1) a.2.1).trans h⟩)
namespace lawEdges
noncomputable def E : Env cx := { tys := tys, fs := fsOf [(7, F_alive), (15, F_edge), (16, F_redge), (17, F_next), (18, F_back)] }
abbrev R := Option ((Bool) × (Unit))
abbrev C := Exit → ST cx → R
noncomputable def b : Code := bodyC Try.f4
noncomputable def h : Hint := { vs := [0, 1, 4, 5, 6, 7, 8], nil := [], cuts := [(9, ([0, 1, 5, 6, 7], []), ([0, 1, 5, 6], [])), (10, ([0, 1, 5, 6, 7], []), ([0, 1, 5, 6, 7], [])), (12, ([0, 1, 5, 6, 7, 36], []), ([0, 1, 5, 6, 7], [])), (13, ([0, 1, 5, 6], []), ([0, 1, 5, 6], [])), (14, ([0, 1, 5, 6, 8], []), ([0, 1, 5, 6], [])), (15, ([0, 1, 5, 6, 8], []), ([0, 1, 5, 6, 8], [])), (17, ([0, 1, 5, 6, 8, 51], []), ([0, 1, 5, 6, 8], [])), (18, ([0, 1, 5, 6], []), ([0, 1, 5, 6], [])), (20, ([0, 1, 5, 6], []), ([0, 1, 5, 6], []))], ret := ([4], []), ords := [] }
noncomputable def K0 : C := fin (S := cx) E Try.f4.results.toList .bool .ro [] []
noncomputable def c0 : Code := subC b [1]
noncomputable def K1 (k : Nat) : C := outD h c0 K0
noncomputable def K2 (k : Nat) : C := seqC E h k c0 K0
noncomputable def c1 : Code := subC b [1, 1]
noncomputable def K3 (k : Nat) : C := outD h c1 (K1 k)
noncomputable def K4 (k : Nat) : C := seqC E h k c1 (K1 k)
noncomputable def c2 : Code := subC b [1, 0, 1]
noncomputable def K5 (k : Nat) : C := outD h c2 (K4 k)
noncomputable def K6 (k : Nat) : C := seqC E h k c2 (K4 k)
noncomputable def c3 : Code := subC b [1, 0, 1, 0, 1]
noncomputable def K7 (k : Nat) : C := outD h c3 (K5 k)
noncomputable def K8 (k : Nat) : C := seqC E h k c3 (K5 k)
noncomputable def c4 : Code := subC b [1, 1, 1]
noncomputable def K9 (k : Nat) : C := outD h c4 (K3 k)
noncomputable def K10 (k : Nat) : C := seqC E h k c4 (K3 k)
noncomputable def c5 : Code := subC b [1, 1, 0, 1]
noncomputable def K11 (k : Nat) : C := outD h c5 (K10 k)
noncomputable def K12 (k : Nat) : C := seqC E h k c5 (K10 k)
noncomputable def c6 : Code := subC b [1, 1, 0, 1, 0, 1]
noncomputable def K13 (k : Nat) : C := outD h c6 (K11 k)
noncomputable def K14 (k : Nat) : C := seqC E h k c6 (K11 k)
noncomputable def c7 : Code := subC b [1, 1, 1, 1]
noncomputable def K15 (k : Nat) : C := outD h c7 (K9 k)
noncomputable def K16 (k : Nat) : C := seqC E h k c7 (K9 k)
noncomputable def c8 : Code := subC b [1, 1, 1, 0, 1]
noncomputable def K17 (k : Nat) : C := outD h c8 (K16 k)
noncomputable def K18 (k : Nat) : C := seqC E h k c8 (K16 k)
noncomputable def c9 : Code := subC b [1, 1, 1, 0, 1, 0, 1]
noncomputable def K19 (k : Nat) : C := outD h c9 (K17 k)
noncomputable def K20 (k : Nat) : C := seqC E h k c9 (K17 k)
noncomputable def c10 : Code := subC b [1, 1, 1, 1, 1]
noncomputable def K21 (k : Nat) : C := outD h c10 (K15 k)
noncomputable def K22 (k : Nat) : C := seqC E h k c10 (K15 k)
noncomputable def c11 : Code := subC b [1, 1, 1, 1, 1, 1]
noncomputable def K23 (k : Nat) : C := outD h c11 (K21 k)
noncomputable def K24 (k : Nat) : C := seqC E h k c11 (K21 k)
noncomputable def c12 : Code := subC b [1, 1, 1, 1, 1, 0, 1]
noncomputable def K25 (k : Nat) : C := outD h c12 (K24 k)
noncomputable def K26 (k : Nat) : C := seqC E h k c12 (K24 k)
noncomputable def K27 (k : Nat) : C := blockK 0 (K25 k)
noncomputable def c13 : Code := subC b [1, 1, 1, 1, 1, 0, 1, 0, 0]
noncomputable def K28 (k n1 : Nat) : C := loopD E h k c13 (K27 k) n1
noncomputable def c14 : Code := subC b [1, 1, 1, 1, 1, 0, 1, 0, 0, 1]
noncomputable def K29 (k n1 : Nat) : C := outD h c14 (K28 k n1)
noncomputable def K30 (k n1 : Nat) : C := seqC E h k c14 (K28 k n1)
noncomputable def c15 : Code := subC b [1, 1, 1, 1, 1, 0, 1, 0, 0, 0, 1]
noncomputable def K31 (k n1 : Nat) : C := outD h c15 (K30 k n1)
noncomputable def K32 (k n1 : Nat) : C := seqC E h k c15 (K30 k n1)
noncomputable def c16 : Code := subC b [1, 1, 1, 1, 1, 0, 1, 0, 0, 1, 1]
noncomputable def K33 (k n1 : Nat) : C := outD h c16 (K29 k n1)
noncomputable def K34 (k n1 : Nat) : C := seqC E h k c16 (K29 k n1)
noncomputable def K35 (k n1 : Nat) : C := blockK 1 (K34 k n1)
noncomputable def c17 : Code := subC b [1, 1, 1, 1, 1, 0, 1, 0, 0, 1, 0, 0, 1]
noncomputable def K36 (k n1 : Nat) : C := outD h c17 (K35 k n1)
noncomputable def K37 (k n1 : Nat) : C := seqC E h k c17 (K35 k n1)
noncomputable def c18 : Code := subC b [1, 1, 1, 1, 1, 1, 1]
noncomputable def K38 (k : Nat) : C := outD h c18 (K23 k)
noncomputable def K39 (k : Nat) : C := seqC E h k c18 (K23 k)
noncomputable def c19 : Code := subC b [1, 1, 1, 1, 1, 1, 0, 1]
noncomputable def K40 (k : Nat) : C := outD h c19 (K39 k)
noncomputable def K41 (k : Nat) : C := seqC E h k c19 (K39 k)
noncomputable def K42 (k : Nat) : C := blockK 2 (K40 k)
noncomputable def c20 : Code := subC b [1, 1, 1, 1, 1, 1, 0, 1, 0, 0]
noncomputable def K43 (k n5 : Nat) : C := loopD E h k c20 (K42 k) n5
noncomputable def c21 : Code := subC b [1, 1, 1, 1, 1, 1, 0, 1, 0, 0, 1]
noncomputable def K44 (k n5 : Nat) : C := outD h c21 (K43 k n5)
noncomputable def K45 (k n5 : Nat) : C := seqC E h k c21 (K43 k n5)
noncomputable def c22 : Code := subC b [1, 1, 1, 1, 1, 1, 0, 1, 0, 0, 0, 1]
noncomputable def K46 (k n5 : Nat) : C := outD h c22 (K45 k n5)
noncomputable def K47 (k n5 : Nat) : C := seqC E h k c22 (K45 k n5)
noncomputable def c23 : Code := subC b [1, 1, 1, 1, 1, 1, 0, 1, 0, 0, 1, 1]
noncomputable def K48 (k n5 : Nat) : C := outD h c23 (K44 k n5)
noncomputable def K49 (k n5 : Nat) : C := seqC E h k c23 (K44 k n5)
noncomputable def K50 (k n5 : Nat) : C := blockK 3 (K49 k n5)
noncomputable def c24 : Code := subC b [1, 1, 1, 1, 1, 1, 0, 1, 0, 0, 1, 0, 0, 1]
noncomputable def K51 (k n5 : Nat) : C := outD h c24 (K50 k n5)
noncomputable def K52 (k n5 : Nat) : C := seqC E h k c24 (K50 k n5)
noncomputable def c25 : Code := subC b [1, 1, 1, 1, 1, 1, 1, 1]
noncomputable def K53 (k : Nat) : C := outD h c25 (K38 k)
noncomputable def K54 (k : Nat) : C := seqC E h k c25 (K38 k)
noncomputable def c26 : Code := subC b [1, 1, 1, 1, 1, 1, 1, 0, 1]
noncomputable def K55 (k : Nat) : C := outD h c26 (K54 k)
noncomputable def K56 (k : Nat) : C := seqC E h k c26 (K54 k)
noncomputable def c27 : Code := subC b [1, 1, 1, 1, 1, 1, 1, 1, 1]
noncomputable def K57 (k : Nat) : C := outD h c27 (K53 k)
noncomputable def K58 (k : Nat) : C := seqC E h k c27 (K53 k)
abbrev T4 := (List UInt8) → Int → Int → Int → Int → R
abbrev T2 := (List UInt8) → Int → Int → Int → Int → Bool → R
abbrev T8 := (List UInt8) → Int → Int → Int → Int → R
abbrev T6 := (List UInt8) → Int → Int → Int → Int → Bool → R
abbrev T9 := (List UInt8) → Int → Int → Int → R
abbrev T7 := (List UInt8) → Int → Int → Int → R
abbrev T5 := (List UInt8) → Int → Int → Int → Int → R
abbrev T3 := (List UInt8) → Int → Int → Int → R
abbrev T1 := (List UInt8) → Int → Int → Int → Int → R
abbrev T0 := (List UInt8) → Int → R
abbrev s4 : (List UInt8) → Int → Int → Int → Int → ST cx := fun (x0 : List UInt8) (x1 x5 x6 x7 : Int) => ({ vars := [(0, .v .str .ro x0), (1, .v (.int .i64) .ro x1), (5, .v (.int .i64) .ro x5), (6, .v (.int .i64) .ro x6), (7, .v (.int .i64) .ro x7)], scr := [], mems := [] } : ST cx)
noncomputable def u4 (k n1 : Nat) : T4 := fun (x0 : List UInt8) (x1 x5 x6 x7 : Int) => runP E h k c16 (s4 x0 x1 x5 x6 x7) (K33 k n1)
noncomputable abbrev l4 (k n1 : Nat) : T4 := fun (x0 : List UInt8) (x1 x5 x6 x7 : Int) => cutK (run E h k c16) (s4 x0 x1 x5 x6 x7) (K33 k n1)
abbrev s2 : (List UInt8) → Int → Int → Int → Int → Bool → ST cx := fun (x0 : List UInt8) (x1 x5 x6 x7 : Int) (x36 : Bool) => ({ vars := [(0, .v .str .ro x0), (1, .v (.int .i64) .ro x1), (5, .v (.int .i64) .ro x5), (6, .v (.int .i64) .ro x6), (7, .v (.int .i64) .ro x7), (36, .v .bool .ro x36)], scr := [], mems := [] } : ST cx)
noncomputable def u2 (k n1 : Nat) : T2 := fun (x0 : List UInt8) (x1 x5 x6 x7 : Int) (x36 : Bool) => runP E h k c17 (s2 x0 x1 x5 x6 x7 x36) (K36 k n1)
noncomputable abbrev l2 (k n1 : Nat) : T2 := fun (x0 : List UInt8) (x1 x5 x6 x7 : Int) (x36 : Bool) => cutK (run E h k c17) (s2 x0 x1 x5 x6 x7 x36) (K36 k n1)
abbrev s8 : (List UInt8) → Int → Int → Int → Int → ST cx := fun (x0 : List UInt8) (x1 x5 x6 x8 : Int) => ({ vars := [(0, .v .str .ro x0), (1, .v (.int .i64) .ro x1), (5, .v (.int .i64) .ro x5), (6, .v (.int .i64) .ro x6), (8, .v (.int .i64) .ro x8)], scr := [], mems := [] } : ST cx)
noncomputable def u8 (k n5 : Nat) : T8 := fun (x0 : List UInt8) (x1 x5 x6 x8 : Int) => runP E h k c23 (s8 x0 x1 x5 x6 x8) (K48 k n5)
noncomputable abbrev l8 (k n5 : Nat) : T8 := fun (x0 : List UInt8) (x1 x5 x6 x8 : Int) => cutK (run E h k c23) (s8 x0 x1 x5 x6 x8) (K48 k n5)
abbrev s6 : (List UInt8) → Int → Int → Int → Int → Bool → ST cx := fun (x0 : List UInt8) (x1 x5 x6 x8 : Int) (x51 : Bool) => ({ vars := [(0, .v .str .ro x0), (1, .v (.int .i64) .ro x1), (5, .v (.int .i64) .ro x5), (6, .v (.int .i64) .ro x6), (8, .v (.int .i64) .ro x8), (51, .v .bool .ro x51)], scr := [], mems := [] } : ST cx)
noncomputable def u6 (k n5 : Nat) : T6 := fun (x0 : List UInt8) (x1 x5 x6 x8 : Int) (x51 : Bool) => runP E h k c24 (s6 x0 x1 x5 x6 x8 x51) (K51 k n5)
noncomputable abbrev l6 (k n5 : Nat) : T6 := fun (x0 : List UInt8) (x1 x5 x6 x8 : Int) (x51 : Bool) => cutK (run E h k c24) (s6 x0 x1 x5 x6 x8 x51) (K51 k n5)
abbrev s9 : (List UInt8) → Int → Int → Int → ST cx := fun (x0 : List UInt8) (x1 x5 x6 : Int) => ({ vars := [(0, .v .str .ro x0), (1, .v (.int .i64) .ro x1), (5, .v (.int .i64) .ro x5), (6, .v (.int .i64) .ro x6)], scr := [], mems := [] } : ST cx)
noncomputable def u9 (k : Nat) : T9 := fun (x0 : List UInt8) (x1 x5 x6 : Int) => runP E h k c25 (s9 x0 x1 x5 x6) (K53 k)
noncomputable abbrev l9 (k : Nat) : T9 := fun (x0 : List UInt8) (x1 x5 x6 : Int) => cutK (run E h k c25) (s9 x0 x1 x5 x6) (K53 k)
abbrev s7 : (List UInt8) → Int → Int → Int → ST cx := fun (x0 : List UInt8) (x1 x5 x6 : Int) => ({ vars := [(0, .v .str .ro x0), (1, .v (.int .i64) .ro x1), (5, .v (.int .i64) .ro x5), (6, .v (.int .i64) .ro x6)], scr := [], mems := [] } : ST cx)
noncomputable def u7 (k : Nat) : T7 := fun (x0 : List UInt8) (x1 x5 x6 : Int) => runP E h k c18 (s7 x0 x1 x5 x6) (K38 k)
noncomputable abbrev l7 (k : Nat) : T7 := fun (x0 : List UInt8) (x1 x5 x6 : Int) => cutK (run E h k c18) (s7 x0 x1 x5 x6) (K38 k)
abbrev s5 : (List UInt8) → Int → Int → Int → Int → ST cx := fun (x0 : List UInt8) (x1 x5 x6 x8 : Int) => ({ vars := [(0, .v .str .ro x0), (1, .v (.int .i64) .ro x1), (5, .v (.int .i64) .ro x5), (6, .v (.int .i64) .ro x6), (8, .v (.int .i64) .ro x8)], scr := [], mems := [] } : ST cx)
noncomputable def u5 (k n5 : Nat) : T5 := fun (x0 : List UInt8) (x1 x5 x6 x8 : Int) => loopP E h k c20 (K42 k) n5 (s5 x0 x1 x5 x6 x8)
noncomputable abbrev l5 (k n5 : Nat) : T5 := fun (x0 : List UInt8) (x1 x5 x6 x8 : Int) => cutK (loopL E h k c20 (K42 k) n5) (s5 x0 x1 x5 x6 x8) ()
abbrev s3 : (List UInt8) → Int → Int → Int → ST cx := fun (x0 : List UInt8) (x1 x5 x6 : Int) => ({ vars := [(0, .v .str .ro x0), (1, .v (.int .i64) .ro x1), (5, .v (.int .i64) .ro x5), (6, .v (.int .i64) .ro x6)], scr := [], mems := [] } : ST cx)
noncomputable def u3 (k : Nat) : T3 := fun (x0 : List UInt8) (x1 x5 x6 : Int) => runP E h k c11 (s3 x0 x1 x5 x6) (K23 k)
noncomputable abbrev l3 (k : Nat) : T3 := fun (x0 : List UInt8) (x1 x5 x6 : Int) => cutK (run E h k c11) (s3 x0 x1 x5 x6) (K23 k)
abbrev s1 : (List UInt8) → Int → Int → Int → Int → ST cx := fun (x0 : List UInt8) (x1 x5 x6 x7 : Int) => ({ vars := [(0, .v .str .ro x0), (1, .v (.int .i64) .ro x1), (5, .v (.int .i64) .ro x5), (6, .v (.int .i64) .ro x6), (7, .v (.int .i64) .ro x7)], scr := [], mems := [] } : ST cx)
noncomputable def u1 (k n1 : Nat) : T1 := fun (x0 : List UInt8) (x1 x5 x6 x7 : Int) => loopP E h k c13 (K27 k) n1 (s1 x0 x1 x5 x6 x7)
noncomputable abbrev l1 (k n1 : Nat) : T1 := fun (x0 : List UInt8) (x1 x5 x6 x7 : Int) => cutK (loopL E h k c13 (K27 k) n1) (s1 x0 x1 x5 x6 x7) ()
noncomputable def u0 (k : Nat) : T0 := fun (x0 : List UInt8) (x1 : Int) => runOf (S := cx) E h k Try.f4 [.val .str, .val (.int .i64)] .bool .ro (x0, x1, ())
def t4 (f1 : T1) : T4 := fun (x0 : List UInt8) (x1 x5 x6 x7 : Int) => 
  (f1 x0 x1 x5 x6 (w64 (x7 - (1 : Int))))
theorem e4 (k n1 : Nat) : u4 k n1 = t4 (l1 k n1) := by kernel_rfl
def p4 (k : Nat) (a1 : T1) : T4 := t4 a1
theorem o4 (k n1 : Nat) (a1 : T1) (h1 : l1 k n1 = a1) : l4 k n1 = p4 k a1 := by rw [show l4 k n1 = u4 k n1 from by kernel_rfl, e4, h1]; rfl
def t2 (f4 : T4) : T2 := fun (x0 : List UInt8) (x1 x5 x6 x7 : Int) (x36 : Bool) => 
  (iteB x36 (f4 x0 x1 x7 x6 x7) (f4 x0 x1 x5 x6 x7))
theorem e2 (k n1 : Nat) : u2 k n1 = t2 (l4 k n1) := by kernel_rfl
def p2 (k : Nat) (a1 : T1) : T2 := t2 (p4 k a1)
theorem o2 (k n1 : Nat) (a1 : T1) (h1 : l1 k n1 = a1) : l2 k n1 = p2 k a1 := by rw [show l2 k n1 = u2 k n1 from by kernel_rfl, e2, (o4 k n1 a1 h1)]; rfl
def t8 (f5 : T5) : T8 := fun (x0 : List UInt8) (x1 x5 x6 x8 : Int) => 
  (f5 x0 x1 x5 x6 (w64 (x8 + (1 : Int))))
theorem e8 (k n5 : Nat) : u8 k n5 = t8 (l5 k n5) := by kernel_rfl
def p8 (k : Nat) (a5 : T5) : T8 := t8 a5
theorem o8 (k n5 : Nat) (a5 : T5) (h5 : l5 k n5 = a5) : l8 k n5 = p8 k a5 := by rw [show l8 k n5 = u8 k n5 from by kernel_rfl, e8, h5]; rfl
def t6 (f8 : T8) : T6 := fun (x0 : List UInt8) (x1 x5 x6 x8 : Int) (x51 : Bool) => 
  (iteB x51 (f8 x0 x1 x5 x8 x8) (f8 x0 x1 x5 x6 x8))
theorem e6 (k n5 : Nat) : u6 k n5 = t6 (l8 k n5) := by kernel_rfl
def p6 (k : Nat) (a5 : T5) : T6 := t6 (p8 k a5)
theorem o6 (k n5 : Nat) (a5 : T5) (h5 : l5 k n5 = a5) : l6 k n5 = p6 k a5 := by rw [show l6 k n5 = u6 k n5 from by kernel_rfl, e6, (o8 k n5 a5 h5)]; rfl
def t9 : T9 := fun (x0 : List UInt8) (x1 x5 x6 : Int) => 
  (bindR (s_next (x0, (x1, ()))) fun r6 => (iteB (decide (r6.1 = x5)) (bindR (s_back (x0, (x1, ()))) fun r7 => (some ((decide (r7.1 = x6)), ()))) (some (false, ()))))
theorem e9 (k : Nat) : u9 k = t9 := by kernel_rfl
def p9 (k : Nat) : T9 := t9
theorem o9 (k : Nat) : l9 k = p9 k := by rw [show l9 k = u9 k from by kernel_rfl, e9]; rfl
def t7 (f9 : T9) : T7 := fun (x0 : List UInt8) (x1 x5 x6 : Int) => 
  (iteB (decide (x1 < (0 : Int))) (f9 x0 x1 (0 : Int) x6) (f9 x0 x1 x5 x6))
theorem e7 (k : Nat) : u7 k = t7 (l9 k) := by kernel_rfl
def p7 (k : Nat) : T7 := t7 (p9 k)
theorem o7 (k : Nat) : l7 k = p7 k := by rw [show l7 k = u7 k from by kernel_rfl, e7, (o9 k)]; rfl
def t5 (f6 : T6) (f7 : T7) : T5 := fun (x0 : List UInt8) (x1 x5 x6 x8 : Int) => 
  (iteB (decide (x8 ≤ ((List.length x0 : Nat) : Int))) (bindR (s_redge (x0, (x8, ()))) fun r5 => (iteB r5.1 (f6 x0 x1 x5 x6 x8 (decide (x8 < x1))) (f6 x0 x1 x5 x6 x8 false))) (f7 x0 x1 x5 x6))
theorem e5 (k n5 : Nat) : u5 k (n5 + 1) = t5 (l6 k n5) (l7 k) := by kernel_rfl
def p5 (k : Nat) : Nat → T5
  | 0 => fun _ _ _ _ _ => none
  | n5 + 1 => t5 (p6 k (p5 k n5)) (p7 k)
theorem o5 (k : Nat) : ∀ n5, l5 k n5 = p5 k n5
  | 0 => rfl
  | n5 + 1 => by rw [show l5 k (n5 + 1) = u5 k (n5 + 1) from by kernel_rfl, e5, (o6 k n5 (p5 k n5) (o5 k n5)), (o7 k)]; rfl
def t3 (f5 : T5) : T3 := fun (x0 : List UInt8) (x1 x5 x6 : Int) => 
  (f5 x0 x1 x5 x6 (0 : Int))
theorem e3 (k : Nat) : u3 k = t3 (l5 k k) := by kernel_rfl
def p3 (k : Nat) : T3 := t3 (p5 k k)
theorem o3 (k : Nat) : l3 k = p3 k := by rw [show l3 k = u3 k from by kernel_rfl, e3, (o5 k k)]; rfl
def t1 (f2 : T2) (f3 : T3) : T1 := fun (x0 : List UInt8) (x1 x5 x6 x7 : Int) => 
  (iteB (decide ((0 : Int) ≤ x7)) (bindR (s_redge (x0, (x7, ()))) fun r4 => (iteB r4.1 (f2 x0 x1 x5 x6 x7 (decide (x1 < x7))) (f2 x0 x1 x5 x6 x7 false))) (f3 x0 x1 x5 x6))
theorem e1 (k n1 : Nat) : u1 k (n1 + 1) = t1 (l2 k n1) (l3 k) := by kernel_rfl
def p1 (k : Nat) : Nat → T1
  | 0 => fun _ _ _ _ _ => none
  | n1 + 1 => t1 (p2 k (p1 k n1)) (p3 k)
theorem o1 (k : Nat) : ∀ n1, l1 k n1 = p1 k n1
  | 0 => rfl
  | n1 + 1 => by rw [show l1 k (n1 + 1) = u1 k (n1 + 1) from by kernel_rfl, e1, (o2 k n1 (p1 k n1) (o1 k n1)), (o3 k)]; rfl
def t0 (f1 : T1) : T0 := fun (x0 : List UInt8) (x1 : Int) => 
  (bindR (s_alive ()) fun r1 => (iteB (notB r1.1) (some (false, ())) (iteB (decide ((500 : Int) < ((List.length x0 : Nat) : Int))) (some (true, ())) (bindR (s_edge (x0, (x1, ()))) fun r2 => (bindR (s_redge (x0, (x1, ()))) fun r3 => (iteB (!(r2.1 == r3.1)) (some (false, ())) (f1 x0 x1 ((List.length x0 : Nat) : Int) (0 : Int) ((List.length x0 : Nat) : Int))))))))
theorem e0 (k : Nat) : u0 k = t0 (l1 k k) := by kernel_rfl
def p0 (k : Nat) : T0 := t0 (p1 k k)
theorem o0 (k : Nat) : u0 k = p0 k := by rw [e0, (o1 k k)]; rfl
end lawEdges
def s_lawEdges (a : (List UInt8) × ((Int) × (Unit))) : Option ((Bool) × (Unit)) := lawEdges.p0 (List.length a.1 + 10) a.1 a.2.1
noncomputable def F_lawEdges : FSpec cx.toNm := { ps := [.val .str, .val (.int .i64)], nres := 1, rt := .bool, rm := .ro, f := s_lawEdges }
theorem ok_lawEdges : FnOk Try.prog F_lawEdges 4 := fn_of (hn := lawEdges.h) (E := lawEdges.E) cxOk (tysT _) (fs_cons ok_alive (fs_cons ok_edge (fs_cons ok_redge (fs_cons ok_next (fs_cons ok_back fs_nil))))) follows Try.func4 (by kernel_rfl) (fun a r h => ⟨List.length a.1 + 10, (congrFun (congrFun (lawEdges.o0 (List.length a.1 + 10)) a.1) a.2.1).trans h⟩)
namespace lawPieces
noncomputable def E : Env cx := { tys := tys, fs := fsOf [(7, F_alive), (11, F_rsign), (12, F_rbytes), (13, F_whole), (15, F_edge), (19, F_count)] }
abbrev R := Option ((Bool) × (Unit))
abbrev C := Exit → ST cx → R
noncomputable def b : Code := bodyC Try.f5
noncomputable def h : Hint := { vs := [0, 1, 2, 6, 7, 8, 9, 10, 11], nil := [], cuts := [(5, ([0, 1, 2, 7, 8, 9], []), ([1, 2, 7, 8], [])), (6, ([0, 1, 2, 7, 8, 9], []), ([0, 1, 2, 7, 8, 9], [])), (7, ([0, 1, 2, 7, 8, 9], []), ([0, 1, 2, 7, 8, 9], [])), (10, ([1, 2, 7, 8], []), ([1, 2, 7, 8], [])), (13, ([7, 8, 10, 11], []), ([7, 8, 10, 11], [])), (14, ([7, 10, 11, 61], []), ([7, 10, 11], [])), (15, ([7, 10, 11], []), ([7, 10, 11], []))], ret := ([6], []), ords := [] }
noncomputable def K0 : C := fin (S := cx) E Try.f5.results.toList .bool .ro [] []
noncomputable def c0 : Code := subC b [1]
noncomputable def K1 (k : Nat) : C := outD h c0 K0
noncomputable def K2 (k : Nat) : C := seqC E h k c0 K0
noncomputable def c1 : Code := subC b [1, 1]
noncomputable def K3 (k : Nat) : C := outD h c1 (K1 k)
noncomputable def K4 (k : Nat) : C := seqC E h k c1 (K1 k)
noncomputable def c2 : Code := subC b [1, 0, 1]
noncomputable def K5 (k : Nat) : C := outD h c2 (K4 k)
noncomputable def K6 (k : Nat) : C := seqC E h k c2 (K4 k)
noncomputable def c3 : Code := subC b [1, 0, 1, 0, 1]
noncomputable def K7 (k : Nat) : C := outD h c3 (K5 k)
noncomputable def K8 (k : Nat) : C := seqC E h k c3 (K5 k)
noncomputable def c4 : Code := subC b [1, 1, 1]
noncomputable def K9 (k : Nat) : C := outD h c4 (K3 k)
noncomputable def K10 (k : Nat) : C := seqC E h k c4 (K3 k)
noncomputable def c5 : Code := subC b [1, 1, 1, 1]
noncomputable def K11 (k : Nat) : C := outD h c5 (K9 k)
noncomputable def K12 (k : Nat) : C := seqC E h k c5 (K9 k)
noncomputable def c6 : Code := subC b [1, 1, 1, 0, 1]
noncomputable def K13 (k : Nat) : C := outD h c6 (K12 k)
noncomputable def K14 (k : Nat) : C := seqC E h k c6 (K12 k)
noncomputable def K15 (k : Nat) : C := blockK 0 (K13 k)
noncomputable def c7 : Code := subC b [1, 1, 1, 0, 1, 0, 0]
noncomputable def K16 (k n1 : Nat) : C := loopD E h k c7 (K15 k) n1
noncomputable def c8 : Code := subC b [1, 1, 1, 0, 1, 0, 0, 1]
noncomputable def K17 (k n1 : Nat) : C := outD h c8 (K16 k n1)
noncomputable def K18 (k n1 : Nat) : C := seqC E h k c8 (K16 k n1)
noncomputable def c9 : Code := subC b [1, 1, 1, 0, 1, 0, 0, 0, 1]
noncomputable def K19 (k n1 : Nat) : C := outD h c9 (K18 k n1)
noncomputable def K20 (k n1 : Nat) : C := seqC E h k c9 (K18 k n1)
noncomputable def c10 : Code := subC b [1, 1, 1, 0, 1, 0, 0, 1, 1]
noncomputable def K21 (k n1 : Nat) : C := outD h c10 (K17 k n1)
noncomputable def K22 (k n1 : Nat) : C := seqC E h k c10 (K17 k n1)
noncomputable def K23 (k n1 : Nat) : C := blockK 1 (K22 k n1)
noncomputable def c11 : Code := subC b [1, 1, 1, 0, 1, 0, 0, 1, 0, 0, 1]
noncomputable def K24 (k n1 : Nat) : C := outD h c11 (K23 k n1)
noncomputable def K25 (k n1 : Nat) : C := seqC E h k c11 (K23 k n1)
noncomputable def c12 : Code := subC b [1, 1, 1, 0, 1, 0, 0, 1, 0, 0, 1, 0, 1]
noncomputable def K26 (k n1 : Nat) : C := outD h c12 (K24 k n1)
noncomputable def K27 (k n1 : Nat) : C := seqC E h k c12 (K24 k n1)
noncomputable def c13 : Code := subC b [1, 1, 1, 1, 1]
noncomputable def K28 (k : Nat) : C := outD h c13 (K11 k)
noncomputable def K29 (k : Nat) : C := seqC E h k c13 (K11 k)
noncomputable def c14 : Code := subC b [1, 1, 1, 1, 1, 1]
noncomputable def K30 (k : Nat) : C := outD h c14 (K28 k)
noncomputable def K31 (k : Nat) : C := seqC E h k c14 (K28 k)
noncomputable def c15 : Code := subC b [1, 1, 1, 1, 1, 0, 1]
noncomputable def K32 (k : Nat) : C := outD h c15 (K31 k)
noncomputable def K33 (k : Nat) : C := seqC E h k c15 (K31 k)
noncomputable def c16 : Code := subC b [1, 1, 1, 1, 1, 1, 1]
noncomputable def K34 (k : Nat) : C := outD h c16 (K30 k)
noncomputable def K35 (k : Nat) : C := seqC E h k c16 (K30 k)
noncomputable def c17 : Code := subC b [1, 1, 1, 1, 1, 1, 0, 1]
noncomputable def K36 (k : Nat) : C := outD h c17 (K35 k)
noncomputable def K37 (k : Nat) : C := seqC E h k c17 (K35 k)
noncomputable def c18 : Code := subC b [1, 1, 1, 1, 1, 1, 0, 1, 0, 1]
noncomputable def K38 (k : Nat) : C := outD h c18 (K36 k)
noncomputable def K39 (k : Nat) : C := seqC E h k c18 (K36 k)
noncomputable def c19 : Code := subC b [1, 1, 1, 1, 1, 1, 1, 1]
noncomputable def K40 (k : Nat) : C := outD h c19 (K34 k)
noncomputable def K41 (k : Nat) : C := seqC E h k c19 (K34 k)
abbrev T4 := (List (Int)) → Int → Int → (List UInt8) → Int → Int → R
abbrev T2 := (List (Int)) → Int → Int → (List UInt8) → Int → Int → R
abbrev T7 := (List UInt8) → Int → Int → R
abbrev T6 := (List UInt8) → Int → Int → Bool → R
abbrev T5 := (List UInt8) → Int → Int → Int → R
abbrev T3 := Int → Int → (List UInt8) → Int → R
abbrev T1 := (List (Int)) → Int → Int → (List UInt8) → Int → Int → R
abbrev T0 := (List (Int)) → Int → Int → R
abbrev s4 : (List (Int)) → Int → Int → (List UInt8) → Int → Int → ST cx := fun (x0 : List (Int)) (x1 x2 : Int) (x7 : List UInt8) (x8 x9 : Int) => ({ vars := [(0, .v (.slice 3 (.int .i64)) .ro x0), (1, .v (.int .u8) .ro x1), (2, .v (.int .u8) .ro x2), (7, .v .str .ro x7), (8, .v (.int .i64) .ro x8), (9, .v (.int .i64) .ro x9)], scr := [], mems := [] } : ST cx)
noncomputable def u4 (k n1 : Nat) : T4 := fun (x0 : List (Int)) (x1 x2 : Int) (x7 : List UInt8) (x8 x9 : Int) => runP E h k c10 (s4 x0 x1 x2 x7 x8 x9) (K21 k n1)
noncomputable abbrev l4 (k n1 : Nat) : T4 := fun (x0 : List (Int)) (x1 x2 : Int) (x7 : List UInt8) (x8 x9 : Int) => cutK (run E h k c10) (s4 x0 x1 x2 x7 x8 x9) (K21 k n1)
abbrev s2 : (List (Int)) → Int → Int → (List UInt8) → Int → Int → ST cx := fun (x0 : List (Int)) (x1 x2 : Int) (x7 : List UInt8) (x8 x9 : Int) => ({ vars := [(0, .v (.slice 3 (.int .i64)) .ro x0), (1, .v (.int .u8) .ro x1), (2, .v (.int .u8) .ro x2), (7, .v .str .ro x7), (8, .v (.int .i64) .ro x8), (9, .v (.int .i64) .ro x9)], scr := [], mems := [] } : ST cx)
noncomputable def u2 (k n1 : Nat) : T2 := fun (x0 : List (Int)) (x1 x2 : Int) (x7 : List UInt8) (x8 x9 : Int) => runP E h k c8 (s2 x0 x1 x2 x7 x8 x9) (K17 k n1)
noncomputable abbrev l2 (k n1 : Nat) : T2 := fun (x0 : List (Int)) (x1 x2 : Int) (x7 : List UInt8) (x8 x9 : Int) => cutK (run E h k c8) (s2 x0 x1 x2 x7 x8 x9) (K17 k n1)
abbrev s7 : (List UInt8) → Int → Int → ST cx := fun (x7 : List UInt8) (x10 x11 : Int) => ({ vars := [(7, .v .str .ro x7), (10, .v (.int .i64) .ro x10), (11, .v (.int .i64) .ro x11)], scr := [], mems := [] } : ST cx)
noncomputable def u7 (k : Nat) : T7 := fun (x7 : List UInt8) (x10 x11 : Int) => runP E h k c16 (s7 x7 x10 x11) (K34 k)
noncomputable abbrev l7 (k : Nat) : T7 := fun (x7 : List UInt8) (x10 x11 : Int) => cutK (run E h k c16) (s7 x7 x10 x11) (K34 k)
abbrev s6 : (List UInt8) → Int → Int → Bool → ST cx := fun (x7 : List UInt8) (x10 x11 : Int) (x61 : Bool) => ({ vars := [(7, .v .str .ro x7), (10, .v (.int .i64) .ro x10), (11, .v (.int .i64) .ro x11), (61, .v .bool .ro x61)], scr := [], mems := [] } : ST cx)
noncomputable def u6 (k : Nat) : T6 := fun (x7 : List UInt8) (x10 x11 : Int) (x61 : Bool) => runP E h k c17 (s6 x7 x10 x11 x61) (K36 k)
noncomputable abbrev l6 (k : Nat) : T6 := fun (x7 : List UInt8) (x10 x11 : Int) (x61 : Bool) => cutK (run E h k c17) (s6 x7 x10 x11 x61) (K36 k)
abbrev s5 : (List UInt8) → Int → Int → Int → ST cx := fun (x7 : List UInt8) (x8 x10 x11 : Int) => ({ vars := [(7, .v .str .ro x7), (8, .v (.int .i64) .ro x8), (10, .v (.int .i64) .ro x10), (11, .v (.int .i64) .ro x11)], scr := [], mems := [] } : ST cx)
noncomputable def u5 (k : Nat) : T5 := fun (x7 : List UInt8) (x8 x10 x11 : Int) => runP E h k c14 (s5 x7 x8 x10 x11) (K30 k)
noncomputable abbrev l5 (k : Nat) : T5 := fun (x7 : List UInt8) (x8 x10 x11 : Int) => cutK (run E h k c14) (s5 x7 x8 x10 x11) (K30 k)
abbrev s3 : Int → Int → (List UInt8) → Int → ST cx := fun (x1 x2 : Int) (x7 : List UInt8) (x8 : Int) => ({ vars := [(1, .v (.int .u8) .ro x1), (2, .v (.int .u8) .ro x2), (7, .v .str .ro x7), (8, .v (.int .i64) .ro x8)], scr := [], mems := [] } : ST cx)
noncomputable def u3 (k : Nat) : T3 := fun (x1 x2 : Int) (x7 : List UInt8) (x8 : Int) => runP E h k c5 (s3 x1 x2 x7 x8) (K11 k)
noncomputable abbrev l3 (k : Nat) : T3 := fun (x1 x2 : Int) (x7 : List UInt8) (x8 : Int) => cutK (run E h k c5) (s3 x1 x2 x7 x8) (K11 k)
abbrev s1 : (List (Int)) → Int → Int → (List UInt8) → Int → Int → ST cx := fun (x0 : List (Int)) (x1 x2 : Int) (x7 : List UInt8) (x8 x9 : Int) => ({ vars := [(0, .v (.slice 3 (.int .i64)) .ro x0), (1, .v (.int .u8) .ro x1), (2, .v (.int .u8) .ro x2), (7, .v .str .ro x7), (8, .v (.int .i64) .ro x8), (9, .v (.int .i64) .ro x9)], scr := [], mems := [] } : ST cx)
noncomputable def u1 (k n1 : Nat) : T1 := fun (x0 : List (Int)) (x1 x2 : Int) (x7 : List UInt8) (x8 x9 : Int) => loopP E h k c7 (K15 k) n1 (s1 x0 x1 x2 x7 x8 x9)
noncomputable abbrev l1 (k n1 : Nat) : T1 := fun (x0 : List (Int)) (x1 x2 : Int) (x7 : List UInt8) (x8 x9 : Int) => cutK (loopL E h k c7 (K15 k) n1) (s1 x0 x1 x2 x7 x8 x9) ()
noncomputable def u0 (k : Nat) : T0 := fun (x0 : List (Int)) (x1 x2 : Int) => runOf (S := cx) E h k Try.f5 [.val (.slice 3 (.int .i64)), .val (.int .u8), .val (.int .u8)] .bool .ro (x0, x1, x2, ())
def t4 (f1 : T1) : T4 := fun (x0 : List (Int)) (x1 x2 : Int) (x7 : List UInt8) (x8 x9 : Int) => 
  (f1 x0 x1 x2 x7 x8 (w64 (x9 + (1 : Int))))
theorem e4 (k n1 : Nat) : u4 k n1 = t4 (l1 k n1) := by kernel_rfl
def p4 (k : Nat) (a1 : T1) : T4 := t4 a1
theorem o4 (k n1 : Nat) (a1 : T1) (h1 : l1 k n1 = a1) : l4 k n1 = p4 k a1 := by rw [show l4 k n1 = u4 k n1 from by kernel_rfl, e4, h1]; rfl
def t2 (f4 : T4) : T2 := fun (x0 : List (Int)) (x1 x2 : Int) (x7 : List UInt8) (x8 x9 : Int) => 
  (withinR x9 (List.length x0) fun q2 => (bindR (s_rsign ((List.getD x0 q2 (0 : Int)), ())) fun r3 => (iteB r3.1 (withinR x9 (List.length x0) fun q4 => (bindR (s_rbytes ((List.getD x0 q4 (0 : Int)), ())) fun r5 => (mustR (decide (List.length x7 + List.length r5.1 ≤ 140737488355328)) (f4 x0 x1 x2 (x7 ++ r5.1) (w64 (x8 + (1 : Int))) x9)))) (f4 x0 x1 x2 x7 x8 x9))))
theorem e2 (k n1 : Nat) : u2 k n1 = t2 (l4 k n1) := by kernel_rfl
def p2 (k : Nat) (a1 : T1) : T2 := t2 (p4 k a1)
theorem o2 (k n1 : Nat) (a1 : T1) (h1 : l1 k n1 = a1) : l2 k n1 = p2 k a1 := by rw [show l2 k n1 = u2 k n1 from by kernel_rfl, e2, (o4 k n1 a1 h1)]; rfl
def t7 : T7 := fun (x7 : List UInt8) (x10 x11 : Int) => 
  (bindR (s_edge (x7, (x10, ()))) fun r8 => (iteB (notB r8.1) (some (true, ())) (bindR (s_edge (x7, (x11, ()))) fun r9 => (iteB (notB r9.1) (some (true, ())) (mustR (decide (0 ≤ x11)) (mustR (decide (x11 ≤ (((List.length x7) : Nat) : Int))) (mustR (decide (0 ≤ x10)) (mustR (decide (x10 ≤ (((Int.toNat x11) : Nat) : Int))) (bindR (s_whole ((List.drop (Int.toNat x10) (List.take (Int.toNat x11) x7)), ())) fun r10 => (some (r10.1, ())))))))))))
theorem e7 (k : Nat) : u7 k = t7 := by kernel_rfl
def p7 (k : Nat) : T7 := t7
theorem o7 (k : Nat) : l7 k = p7 k := by rw [show l7 k = u7 k from by kernel_rfl, e7]; rfl
def t6 (f7 : T7) : T6 := fun (x7 : List UInt8) (x10 x11 : Int) (x61 : Bool) => 
  (iteB x61 (some (false, ())) (f7 x7 x10 x11))
theorem e6 (k : Nat) : u6 k = t6 (l7 k) := by kernel_rfl
def p6 (k : Nat) : T6 := t6 (p7 k)
theorem o6 (k : Nat) : l6 k = p6 k := by rw [show l6 k = u6 k from by kernel_rfl, e6, (o7 k)]; rfl
def t5 (f6 : T6) : T5 := fun (x7 : List UInt8) (x8 x10 x11 : Int) => 
  (bindR (s_whole (x7, ())) fun r6 => (iteB (notB r6.1) (f6 x7 x10 x11 true) (bindR (s_count (x7, ())) fun r7 => (f6 x7 x10 x11 (!decide (r7.1 = x8))))))
theorem e5 (k : Nat) : u5 k = t5 (l6 k) := by kernel_rfl
def p5 (k : Nat) : T5 := t5 (p6 k)
theorem o5 (k : Nat) : l5 k = p5 k := by rw [show l5 k = u5 k from by kernel_rfl, e5, (o6 k)]; rfl
def t3 (f5 : T5) : T3 := fun (x1 x2 : Int) (x7 : List UInt8) (x8 : Int) => 
  (iteB (decide ((minI (w64 (x2)) ((List.length x7 : Nat) : Int)) < (minI (w64 (x1)) ((List.length x7 : Nat) : Int)))) (f5 x7 x8 (minI (w64 (x2)) ((List.length x7 : Nat) : Int)) (minI (w64 (x1)) ((List.length x7 : Nat) : Int))) (f5 x7 x8 (minI (w64 (x1)) ((List.length x7 : Nat) : Int)) (minI (w64 (x2)) ((List.length x7 : Nat) : Int))))
theorem e3 (k : Nat) : u3 k = t3 (l5 k) := by kernel_rfl
def p3 (k : Nat) : T3 := t3 (p5 k)
theorem o3 (k : Nat) : l3 k = p3 k := by rw [show l3 k = u3 k from by kernel_rfl, e3, (o5 k)]; rfl
def t1 (f2 : T2) (f3 : T3) : T1 := fun (x0 : List (Int)) (x1 x2 : Int) (x7 : List UInt8) (x8 x9 : Int) => 
  (iteB (decide (x9 < ((List.length x0 : Nat) : Int))) (iteB (decide (x9 < (40 : Int))) (f2 x0 x1 x2 x7 x8 x9) (f3 x1 x2 x7 x8)) (f3 x1 x2 x7 x8))
theorem e1 (k n1 : Nat) : u1 k (n1 + 1) = t1 (l2 k n1) (l3 k) := by kernel_rfl
def p1 (k : Nat) : Nat → T1
  | 0 => fun _ _ _ _ _ _ => none
  | n1 + 1 => t1 (p2 k (p1 k n1)) (p3 k)
theorem o1 (k : Nat) : ∀ n1, l1 k n1 = p1 k n1
  | 0 => rfl
  | n1 + 1 => by rw [show l1 k (n1 + 1) = u1 k (n1 + 1) from by kernel_rfl, e1, (o2 k n1 (p1 k n1) (o1 k n1)), (o3 k)]; rfl
def t0 (f1 : T1) : T0 := fun (x0 : List (Int)) (x1 x2 : Int) => 
  (bindR (s_alive ()) fun r1 => (iteB (notB r1.1) (some (false, ())) (f1 x0 x1 x2 ([] : List UInt8) (0 : Int) (0 : Int))))
theorem e0 (k : Nat) : u0 k = t0 (l1 k k) := by kernel_rfl
def p0 (k : Nat) : T0 := t0 (p1 k k)
theorem o0 (k : Nat) : u0 k = p0 k := by rw [e0, (o1 k k)]; rfl
end lawPieces
def s_lawPieces (a : (List (Int)) × ((Int) × ((Int) × (Unit)))) : Option ((Bool) × (Unit)) := lawPieces.p0 (50) a.1 a.2.1 a.2.2.1
noncomputable def F_lawPieces : FSpec cx.toNm := { ps := [.val (.slice 3 (.int .i64)), .val (.int .u8), .val (.int .u8)], nres := 1, rt := .bool, rm := .ro, f := s_lawPieces }
theorem ok_lawPieces : FnOk Try.prog F_lawPieces 5 := fn_of (hn := lawPieces.h) (E := lawPieces.E) cxOk (tysT _) (fs_cons ok_alive (fs_cons ok_rsign (fs_cons ok_rbytes (fs_cons ok_whole (fs_cons ok_edge (fs_cons ok_count fs_nil)))))) follows Try.func5 (by kernel_rfl) (fun a r h => ⟨50, (congrFun (congrFun (congrFun (lawPieces.o0 (50)) a.1) a.2.1) a.2.2.1).trans h⟩)
namespace lawCounts
noncomputable def E : Env cx := { tys := tys, fs := fsOf [(7, F_alive), (16, F_redge), (19, F_count), (20, F_cut), (21, F_rcount)] }
abbrev R := Option ((Bool) × (Unit))
abbrev C := Exit → ST cx → R
noncomputable def b : Code := bodyC Try.f6
noncomputable def h : Hint := { vs := [0, 1, 4, 5], nil := [], cuts := [(7, ([0, 1, 5, 31], []), ([0, 1, 5], [])), (8, ([0, 1, 5], []), ([0, 1, 5], []))], ret := ([4], []), ords := [] }
noncomputable def K0 : C := fin (S := cx) E Try.f6.results.toList .bool .ro [] []
noncomputable def c0 : Code := subC b [1]
noncomputable def K1 (k : Nat) : C := outD h c0 K0
noncomputable def K2 (k : Nat) : C := seqC E h k c0 K0
noncomputable def c1 : Code := subC b [1, 1]
noncomputable def K3 (k : Nat) : C := outD h c1 (K1 k)
noncomputable def K4 (k : Nat) : C := seqC E h k c1 (K1 k)
noncomputable def c2 : Code := subC b [1, 0, 1]
noncomputable def K5 (k : Nat) : C := outD h c2 (K4 k)
noncomputable def K6 (k : Nat) : C := seqC E h k c2 (K4 k)
noncomputable def c3 : Code := subC b [1, 0, 1, 0, 1]
noncomputable def K7 (k : Nat) : C := outD h c3 (K5 k)
noncomputable def K8 (k : Nat) : C := seqC E h k c3 (K5 k)
noncomputable def c4 : Code := subC b [1, 1, 1]
noncomputable def K9 (k : Nat) : C := outD h c4 (K3 k)
noncomputable def K10 (k : Nat) : C := seqC E h k c4 (K3 k)
noncomputable def c5 : Code := subC b [1, 1, 0, 1]
noncomputable def K11 (k : Nat) : C := outD h c5 (K10 k)
noncomputable def K12 (k : Nat) : C := seqC E h k c5 (K10 k)
noncomputable def c6 : Code := subC b [1, 1, 0, 1, 0, 1]
noncomputable def K13 (k : Nat) : C := outD h c6 (K11 k)
noncomputable def K14 (k : Nat) : C := seqC E h k c6 (K11 k)
noncomputable def c7 : Code := subC b [1, 1, 1, 1]
noncomputable def K15 (k : Nat) : C := outD h c7 (K9 k)
noncomputable def K16 (k : Nat) : C := seqC E h k c7 (K9 k)
noncomputable def c8 : Code := subC b [1, 1, 1, 1, 1]
noncomputable def K17 (k : Nat) : C := outD h c8 (K15 k)
noncomputable def K18 (k : Nat) : C := seqC E h k c8 (K15 k)
noncomputable def c9 : Code := subC b [1, 1, 1, 1, 0, 1]
noncomputable def K19 (k : Nat) : C := outD h c9 (K18 k)
noncomputable def K20 (k : Nat) : C := seqC E h k c9 (K18 k)
noncomputable def c10 : Code := subC b [1, 1, 1, 1, 0, 1, 0, 1]
noncomputable def K21 (k : Nat) : C := outD h c10 (K19 k)
noncomputable def K22 (k : Nat) : C := seqC E h k c10 (K19 k)
noncomputable def c11 : Code := subC b [1, 1, 1, 1, 1, 1]
noncomputable def K23 (k : Nat) : C := outD h c11 (K17 k)
noncomputable def K24 (k : Nat) : C := seqC E h k c11 (K17 k)
noncomputable def c12 : Code := subC b [1, 1, 1, 1, 1, 0, 1]
noncomputable def K25 (k : Nat) : C := outD h c12 (K24 k)
noncomputable def K26 (k : Nat) : C := seqC E h k c12 (K24 k)
noncomputable def c13 : Code := subC b [1, 1, 1, 1, 1, 0, 1, 0, 1]
noncomputable def K27 (k : Nat) : C := outD h c13 (K25 k)
noncomputable def K28 (k : Nat) : C := seqC E h k c13 (K25 k)
noncomputable def c14 : Code := subC b [1, 1, 1, 1, 1, 1, 1]
noncomputable def K29 (k : Nat) : C := outD h c14 (K23 k)
noncomputable def K30 (k : Nat) : C := seqC E h k c14 (K23 k)
abbrev T2 := (List UInt8) → Int → Int → R
abbrev T1 := (List UInt8) → Int → Int → Bool → R
abbrev T0 := (List UInt8) → Int → R
abbrev s2 : (List UInt8) → Int → Int → ST cx := fun (x0 : List UInt8) (x1 x5 : Int) => ({ vars := [(0, .v .str .ro x0), (1, .v (.int .i64) .ro x1), (5, .v (.int .i64) .ro x5)], scr := [], mems := [] } : ST cx)
noncomputable def u2 (k : Nat) : T2 := fun (x0 : List UInt8) (x1 x5 : Int) => runP E h k c8 (s2 x0 x1 x5) (K17 k)
noncomputable abbrev l2 (k : Nat) : T2 := fun (x0 : List UInt8) (x1 x5 : Int) => cutK (run E h k c8) (s2 x0 x1 x5) (K17 k)
abbrev s1 : (List UInt8) → Int → Int → Bool → ST cx := fun (x0 : List UInt8) (x1 x5 : Int) (x31 : Bool) => ({ vars := [(0, .v .str .ro x0), (1, .v (.int .i64) .ro x1), (5, .v (.int .i64) .ro x5), (31, .v .bool .ro x31)], scr := [], mems := [] } : ST cx)
noncomputable def u1 (k : Nat) : T1 := fun (x0 : List UInt8) (x1 x5 : Int) (x31 : Bool) => runP E h k c9 (s1 x0 x1 x5 x31) (K19 k)
noncomputable abbrev l1 (k : Nat) : T1 := fun (x0 : List UInt8) (x1 x5 : Int) (x31 : Bool) => cutK (run E h k c9) (s1 x0 x1 x5 x31) (K19 k)
noncomputable def u0 (k : Nat) : T0 := fun (x0 : List UInt8) (x1 : Int) => runOf (S := cx) E h k Try.f6 [.val .str, .val (.int .i64)] .bool .ro (x0, x1, ())
def t2 : T2 := fun (x0 : List UInt8) (x1 x5 : Int) => 
  (iteB (decide (x1 < (0 : Int))) (iteB (decide (x5 = (0 : Int))) (bindR (s_count (x0, ())) fun r4 => (bindR (s_rcount (x0, ())) fun r5 => (some ((decide (r4.1 = r5.1)), ())))) (some (false, ()))) (bindR (s_count (x0, ())) fun r6 => (bindR (s_rcount (x0, ())) fun r7 => (iteB (decide (r6.1 = r7.1)) (mustR (decide (0 ≤ x5)) (mustR (decide (x5 ≤ (((List.length x0) : Nat) : Int))) (bindR (s_rcount ((List.drop 0 (List.take (Int.toNat x5) x0)), ())) fun r8 => (iteB (decide (r8.1 ≤ x1)) (iteB (decide (x5 = ((List.length x0 : Nat) : Int))) (some (true, ())) (mustR (decide (0 ≤ x5)) (mustR (decide (x5 ≤ (((List.length x0) : Nat) : Int))) (bindR (s_rcount ((List.drop 0 (List.take (Int.toNat x5) x0)), ())) fun r9 => (some ((decide (r9.1 = x1)), ())))))) (some (false, ())))))) (some (false, ()))))))
theorem e2 (k : Nat) : u2 k = t2 := by kernel_rfl
def p2 (k : Nat) : T2 := t2
theorem o2 (k : Nat) : l2 k = p2 k := by rw [show l2 k = u2 k from by kernel_rfl, e2]; rfl
def t1 (f2 : T2) : T1 := fun (x0 : List UInt8) (x1 x5 : Int) (x31 : Bool) => 
  (iteB x31 (some (false, ())) (f2 x0 x1 x5))
theorem e1 (k : Nat) : u1 k = t1 (l2 k) := by kernel_rfl
def p1 (k : Nat) : T1 := t1 (p2 k)
theorem o1 (k : Nat) : l1 k = p1 k := by rw [show l1 k = u1 k from by kernel_rfl, e1, (o2 k)]; rfl
def t0 (f1 : T1) : T0 := fun (x0 : List UInt8) (x1 : Int) => 
  (bindR (s_alive ()) fun r1 => (iteB (notB r1.1) (some (false, ())) (iteB (decide ((500 : Int) < ((List.length x0 : Nat) : Int))) (some (true, ())) (bindR (s_cut (x0, (x1, ()))) fun r2 => (iteB (decide (r2.1 < (0 : Int))) (f1 x0 x1 r2.1 true) (iteB (decide (((List.length x0 : Nat) : Int) < r2.1)) (f1 x0 x1 r2.1 true) (bindR (s_redge (x0, (r2.1, ()))) fun r3 => (iteB (notB r3.1) (f1 x0 x1 r2.1 (decide ((0 : Int) < r2.1))) (f1 x0 x1 r2.1 false)))))))))
theorem e0 (k : Nat) : u0 k = t0 (l1 k) := by kernel_rfl
def p0 (k : Nat) : T0 := t0 (p1 k)
theorem o0 (k : Nat) : u0 k = p0 k := by rw [e0, (o1 k)]; rfl
end lawCounts
def s_lawCounts (a : (List UInt8) × ((Int) × (Unit))) : Option ((Bool) × (Unit)) := lawCounts.p0 (10) a.1 a.2.1
noncomputable def F_lawCounts : FSpec cx.toNm := { ps := [.val .str, .val (.int .i64)], nres := 1, rt := .bool, rm := .ro, f := s_lawCounts }
theorem ok_lawCounts : FnOk Try.prog F_lawCounts 6 := fn_of (hn := lawCounts.h) (E := lawCounts.E) cxOk (tysT _) (fs_cons ok_alive (fs_cons ok_redge (fs_cons ok_count (fs_cons ok_cut (fs_cons ok_rcount fs_nil))))) follows Try.func6 (by kernel_rfl) (fun a r h => ⟨10, (congrFun (congrFun (lawCounts.o0 (10)) a.1) a.2.1).trans h⟩)
end Go.Proofs.Ytkaihgejdglemaa.Vm.Rn
