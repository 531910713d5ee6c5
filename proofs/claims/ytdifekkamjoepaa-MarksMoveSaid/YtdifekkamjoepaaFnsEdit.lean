/- What the functions of edits compute, as plain functions; that they do. -/
import Derived.Test.YtdifekkamjoepaaFnsPlace
namespace Go.Proofs.Ytdifekkamjoepaa.Vm.Rp
open Go Go.Proofs.Ytdifekkamjoepaa.Vm Go.Proofs
set_option linter.unusedVariables false
set_option maxRecDepth 100000
noncomputable section
namespace edit_edits_put
noncomputable def E : Env cx := { tys := tys, fs := fsOf [] }
abbrev R := Option ((Unit) × ((((Int) × (Int)) × (List ((Int) × ((Int) × (List UInt8))))) × (Unit)))
abbrev C := Exit → ST cx → R
noncomputable def b : Code := bodyC Try.f108
noncomputable def h : Hint := { vs := [0, 1, 3], nil := [], cuts := [], ret := ([0], [3, 1000000]), ords := [] }
noncomputable def K0 : C := fin (S := cx) E Try.f108.results.toList .unit .ro [1000000] [((.agg (.pair (.agg (.pair (.int .i64) (.int .i64))) (.slice 41 (.agg (.pair (.int .i64) (.pair (.int .i64) .str)))))), (.pr .ro (.own .ro)))]
noncomputable def c0 : Code := subC b [1]
noncomputable def K1 (k : Nat) : C := outD h c0 K0
noncomputable def K2 (k : Nat) : C := seqC E h k c0 K0
noncomputable def c1 : Code := subC b [1, 1]
noncomputable def K3 (k : Nat) : C := outD h c1 (K1 k)
noncomputable def K4 (k : Nat) : C := seqC E h k c1 (K1 k)
noncomputable def c2 : Code := subC b [1, 1, 1]
noncomputable def K5 (k : Nat) : C := outD h c2 (K3 k)
noncomputable def K6 (k : Nat) : C := seqC E h k c2 (K3 k)
abbrev T0 := (((Int) × (Int)) × (List ((Int) × ((Int) × (List UInt8))))) → ((Int) × ((Int) × (List UInt8))) → R
noncomputable def u0 (k : Nat) : T0 := fun (x0 : ((Int) × (Int)) × (List ((Int) × ((Int) × (List UInt8))))) (x1 : (Int) × ((Int) × (List UInt8))) => runOf (S := cx) E h k Try.f108 [.io (.agg (.pair (.agg (.pair (.int .i64) (.int .i64))) (.slice 41 (.agg (.pair (.int .i64) (.pair (.int .i64) .str)))))) (.pr .ro (.own .ro)), .val (.agg (.pair (.int .i64) (.pair (.int .i64) .str)))] .unit .ro (x0, x1, ())
def t0 : T0 := fun (x0 : ((Int) × (Int)) × (List ((Int) × ((Int) × (List UInt8))))) (x1 : (Int) × ((Int) × (List UInt8))) => 
  (mustR (room x0.2 ([x1] : List ((Int) × ((Int) × (List UInt8))))) (some ((), ((((w64 (x0.1.1 + (w64 (((List.length x1.2.2 : Nat) : Int) - x1.2.1)))), (w64 (x1.1 + x1.2.1))), (x0.2 ++ ([x1] : List ((Int) × ((Int) × (List UInt8)))))), ()))))
theorem e0 (k : Nat) : u0 k = t0 := by kernel_rfl
def p0 (k : Nat) : T0 := t0
theorem o0 (k : Nat) : u0 k = p0 k := (Eq.trans (b := t0) (e0 k) (by kernel_rfl))
end edit_edits_put
def s_edit_edits_put (a : (((Int) × (Int)) × (List ((Int) × ((Int) × (List UInt8))))) × (((Int) × ((Int) × (List UInt8))) × (Unit))) : Option ((Unit) × ((((Int) × (Int)) × (List ((Int) × ((Int) × (List UInt8))))) × (Unit))) := edit_edits_put.p0 (fuel) a.1 a.2.1
noncomputable def F_edit_edits_put : FSpec cx.toNm := { ps := [.io (.agg (.pair (.agg (.pair (.int .i64) (.int .i64))) (.slice 41 (.agg (.pair (.int .i64) (.pair (.int .i64) .str)))))) (.pr .ro (.own .ro)), .val (.agg (.pair (.int .i64) (.pair (.int .i64) .str)))], nres := 0, rt := .unit, rm := .ro, f := s_edit_edits_put }
theorem w_edit_edits_put (a : (((Int) × (Int)) × (List ((Int) × ((Int) × (List UInt8))))) × (((Int) × ((Int) × (List UInt8))) × (Unit))) : runOf (S := cx) edit_edits_put.E edit_edits_put.h (fuel) Try.f108 F_edit_edits_put.ps F_edit_edits_put.rt F_edit_edits_put.rm a = F_edit_edits_put.f a := Eq.trans (b := edit_edits_put.u0 (fuel) a.1 a.2.1) (by kernel_rfl) (Eq.trans (b := edit_edits_put.p0 (fuel) a.1 a.2.1) (congrFun (congrFun (edit_edits_put.o0 (fuel)) a.1) a.2.1) (by kernel_rfl))
theorem ok_edit_edits_put : FnOk Try.prog F_edit_edits_put 108 := fn_of (hn := edit_edits_put.h) (E := edit_edits_put.E) cxOk (tysT _) fs_nil follows Try.func108 (by kernel_rfl) (fun a r h => ⟨fuel, Eq.trans (w_edit_edits_put a) h⟩)
namespace edit_moved
noncomputable def E : Env cx := { tys := tys, fs := fsOf [] }
abbrev R := Option ((Int) × (Unit))
abbrev C := Exit → ST cx → R
noncomputable def b : Code := bodyC Try.f109
noncomputable def h : Hint := { vs := [0, 1, 2, 3, 6, 7, 13, 33], nil := [], cuts := [(4, ([1, 2, 3, 13], [3]), ([3], [3])), (7, ([3, 33], [3]), ([3], [3])), (8, ([3], [3]), ([3], [3]))], ret := ([6], [3]), ords := [] }
noncomputable def K0 : C := fin (S := cx) E Try.f109.results.toList (.int .i64) .ro [] []
noncomputable def c0 : Code := subC b [1]
noncomputable def K1 (k : Nat) : C := outD h c0 K0
noncomputable def K2 (k : Nat) : C := seqC E h k c0 K0
noncomputable def c1 : Code := subC b [1, 1]
noncomputable def K3 (k : Nat) : C := outD h c1 (K1 k)
noncomputable def K4 (k : Nat) : C := seqC E h k c1 (K1 k)
noncomputable def c2 : Code := subC b [1, 1, 1]
noncomputable def K5 (k : Nat) : C := outD h c2 (K3 k)
noncomputable def K6 (k : Nat) : C := seqC E h k c2 (K3 k)
noncomputable def K7 (k : Nat) : C := blockK 0 (K6 k)
noncomputable def c3 : Code := subC b [1, 1, 0, 0, 1]
noncomputable def K8 (k : Nat) : C := outD h c3 (K7 k)
noncomputable def K9 (k : Nat) : C := seqC E h k c3 (K7 k)
noncomputable def c4 : Code := subC b [1, 1, 0, 0, 0, 1]
noncomputable def K10 (k : Nat) : C := outD h c4 (K9 k)
noncomputable def K11 (k : Nat) : C := seqC E h k c4 (K9 k)
noncomputable def c5 : Code := subC b [1, 1, 0, 0, 1, 0, 1]
noncomputable def K12 (k : Nat) : C := outD h c5 (K8 k)
noncomputable def K13 (k : Nat) : C := seqC E h k c5 (K8 k)
noncomputable def c6 : Code := subC b [1, 1, 0, 0, 1, 1, 1]
noncomputable def K14 (k : Nat) : C := outD h c6 (K8 k)
noncomputable def K15 (k : Nat) : C := seqC E h k c6 (K8 k)
noncomputable def c7 : Code := subC b [1, 1, 0, 0, 1, 1, 0, 1]
noncomputable def K16 (k : Nat) : C := outD h c7 (K15 k)
noncomputable def K17 (k : Nat) : C := seqC E h k c7 (K15 k)
noncomputable def c8 : Code := subC b [1, 1, 0, 0, 1, 1, 1, 0, 1]
noncomputable def K18 (k : Nat) : C := outD h c8 (K14 k)
noncomputable def K19 (k : Nat) : C := seqC E h k c8 (K14 k)
noncomputable def c9 : Code := subC b [1, 1, 1, 1]
noncomputable def K20 (k : Nat) : C := outD h c9 (K5 k)
noncomputable def K21 (k : Nat) : C := seqC E h k c9 (K5 k)
abbrev T3 := ((Int) × ((Int) × (List UInt8))) → R
abbrev T2 := Bool → ((Int) × ((Int) × (List UInt8))) → R
abbrev T1 := Int → Bool → Bool → ((Int) × ((Int) × (List UInt8))) → R
abbrev T0 := ((Int) × ((Int) × (List UInt8))) → Int → Bool → R
abbrev s3 : ((Int) × ((Int) × (List UInt8))) → ST cx := fun (m3 : (Int) × ((Int) × (List UInt8))) => ({ vars := [(3, .addr (.mem 3) [])], scr := [], mems := [(3, ⟨(.agg (.pair (.int .i64) (.pair (.int .i64) .str))), .ro, m3⟩)] } : ST cx)
noncomputable def u3 (k : Nat) : T3 := fun (m3 : (Int) × ((Int) × (List UInt8))) => uK (run E h k c2) (s3 m3) (K5 k)
noncomputable abbrev l3 (k : Nat) : T3 := fun (m3 : (Int) × ((Int) × (List UInt8))) => cutK (run E h k c2) (s3 m3) (K5 k)
abbrev s2 : Bool → ((Int) × ((Int) × (List UInt8))) → ST cx := fun (x33 : Bool) (m3 : (Int) × ((Int) × (List UInt8))) => ({ vars := [(3, .addr (.mem 3) []), (33, .v .bool .ro x33)], scr := [], mems := [(3, ⟨(.agg (.pair (.int .i64) (.pair (.int .i64) .str))), .ro, m3⟩)] } : ST cx)
noncomputable def u2 (k : Nat) : T2 := fun (x33 : Bool) (m3 : (Int) × ((Int) × (List UInt8))) => uK (run E h k c6) (s2 x33 m3) (K14 k)
noncomputable abbrev l2 (k : Nat) : T2 := fun (x33 : Bool) (m3 : (Int) × ((Int) × (List UInt8))) => cutK (run E h k c6) (s2 x33 m3) (K14 k)
abbrev s1 : Int → Bool → Bool → ((Int) × ((Int) × (List UInt8))) → ST cx := fun (x1 : Int) (x2 x13 : Bool) (m3 : (Int) × ((Int) × (List UInt8))) => ({ vars := [(1, .v (.int .i64) .ro x1), (2, .v .bool .ro x2), (3, .addr (.mem 3) []), (13, .v .bool .ro x13)], scr := [], mems := [(3, ⟨(.agg (.pair (.int .i64) (.pair (.int .i64) .str))), .ro, m3⟩)] } : ST cx)
noncomputable def u1 (k : Nat) : T1 := fun (x1 : Int) (x2 x13 : Bool) (m3 : (Int) × ((Int) × (List UInt8))) => uK (run E h k c3) (s1 x1 x2 x13 m3) (K8 k)
noncomputable abbrev l1 (k : Nat) : T1 := fun (x1 : Int) (x2 x13 : Bool) (m3 : (Int) × ((Int) × (List UInt8))) => cutK (run E h k c3) (s1 x1 x2 x13 m3) (K8 k)
noncomputable def u0 (k : Nat) : T0 := fun (x0 : (Int) × ((Int) × (List UInt8))) (x1 : Int) (x2 : Bool) => runOf (S := cx) E h k Try.f109 [.val (.agg (.pair (.int .i64) (.pair (.int .i64) .str))), .val (.int .i64), .val .bool] (.int .i64) .ro (x0, x1, x2, ())
def t3 : T3 := fun (m3 : (Int) × ((Int) × (List UInt8))) => 
  (some ((w64 (m3.1 + ((List.length m3.2.2 : Nat) : Int))), ()))
theorem e3 (k : Nat) : u3 k = t3 := by kernel_rfl
theorem g3 (k : Nat) : l3 k = u3 k := funext fun _ => cut_u _ _ _
def p3 (k : Nat) : T3 := t3
theorem o3 (k : Nat) : l3 k = p3 k := (Eq.trans (b := u3 k) (g3 k) (Eq.trans (b := t3) (e3 k) (by kernel_rfl)))
def t2 (f3 : T3) : T2 := fun (x33 : Bool) (m3 : (Int) × ((Int) × (List UInt8))) => 
  (iteB x33 (some (m3.1, ())) (f3 m3))
theorem e2 (k : Nat) : u2 k = t2 (l3 k) := by kernel_rfl
theorem g2 (k : Nat) : l2 k = u2 k := funext fun _ => funext fun _ => cut_u _ _ _
theorem d2 {x3 y3 : T3} (h3 : x3 = y3) : t2 x3 = t2 y3 := by subst h3; rfl
def p2 (k : Nat) : T2 := t2 (p3 k)
theorem o2 (k : Nat) : l2 k = p2 k := (Eq.trans (b := u2 k) (g2 k) (Eq.trans (b := t2 (l3 k)) (e2 k) (Eq.trans (b := t2 (p3 k)) (d2 (o3 k)) (by kernel_rfl))))
def t1 (f2 : T2) : T1 := fun (x1 : Int) (x2 x13 : Bool) (m3 : (Int) × ((Int) × (List UInt8))) => 
  (iteB x13 (some ((w64 ((w64 (x1 + ((List.length m3.2.2 : Nat) : Int))) - m3.2.1)), ())) (iteB (decide (x1 = m3.1)) (iteB (decide ((0 : Int) < m3.2.1)) (f2 true m3) (iteB (notB x2) (f2 (notB x2) m3) (iteB (decide (m3.1 < x1)) (f2 (notB x2) m3) (f2 false m3)))) (iteB (decide (m3.1 < x1)) (f2 (notB x2) m3) (f2 false m3))))
theorem e1 (k : Nat) : u1 k = t1 (l2 k) := by kernel_rfl
theorem g1 (k : Nat) : l1 k = u1 k := funext fun _ => funext fun _ => funext fun _ => funext fun _ => cut_u _ _ _
theorem d1 {x2 y2 : T2} (h2 : x2 = y2) : t1 x2 = t1 y2 := by subst h2; rfl
def p1 (k : Nat) : T1 := t1 (p2 k)
theorem o1 (k : Nat) : l1 k = p1 k := (Eq.trans (b := u1 k) (g1 k) (Eq.trans (b := t1 (l2 k)) (e1 k) (Eq.trans (b := t1 (p2 k)) (d1 (o2 k)) (by kernel_rfl))))
def t0 (f1 : T1) : T0 := fun (x0 : (Int) × ((Int) × (List UInt8))) (x1 : Int) (x2 : Bool) => 
  (iteB (decide ((w64 (x0.1 + x0.2.1)) < x1)) (f1 x1 x2 (decide ((w64 (x0.1 + x0.2.1)) < x1)) x0) (iteB (decide (x1 = (w64 (x0.1 + x0.2.1)))) (f1 x1 x2 (decide ((0 : Int) < x0.2.1)) x0) (f1 x1 x2 false x0)))
theorem e0 (k : Nat) : u0 k = t0 (l1 k) := by kernel_rfl
theorem d0 {x1 y1 : T1} (h1 : x1 = y1) : t0 x1 = t0 y1 := by subst h1; rfl
def p0 (k : Nat) : T0 := t0 (p1 k)
theorem o0 (k : Nat) : u0 k = p0 k := (Eq.trans (b := t0 (l1 k)) (e0 k) (Eq.trans (b := t0 (p1 k)) (d0 (o1 k)) (by kernel_rfl)))
end edit_moved
def s_edit_moved (a : ((Int) × ((Int) × (List UInt8))) × ((Int) × ((Bool) × (Unit)))) : Option ((Int) × (Unit)) := edit_moved.p0 (fuel) a.1 a.2.1 a.2.2.1
noncomputable def F_edit_moved : FSpec cx.toNm := { ps := [.val (.agg (.pair (.int .i64) (.pair (.int .i64) .str))), .val (.int .i64), .val .bool], nres := 1, rt := (.int .i64), rm := .ro, f := s_edit_moved }
theorem w_edit_moved (a : ((Int) × ((Int) × (List UInt8))) × ((Int) × ((Bool) × (Unit)))) : runOf (S := cx) edit_moved.E edit_moved.h (fuel) Try.f109 F_edit_moved.ps F_edit_moved.rt F_edit_moved.rm a = F_edit_moved.f a := Eq.trans (b := edit_moved.u0 (fuel) a.1 a.2.1 a.2.2.1) (by kernel_rfl) (Eq.trans (b := edit_moved.p0 (fuel) a.1 a.2.1 a.2.2.1) (congrFun (congrFun (congrFun (edit_moved.o0 (fuel)) a.1) a.2.1) a.2.2.1) (by kernel_rfl))
theorem ok_edit_moved : FnOk Try.prog F_edit_moved 109 := fn_of (hn := edit_moved.h) (E := edit_moved.E) cxOk (tysT _) fs_nil follows Try.func109 (by kernel_rfl) (fun a r h => ⟨fuel, Eq.trans (w_edit_moved a) h⟩)
namespace edit_Move
noncomputable def E : Env cx := { tys := tys, fs := fsOf [(108, F_edit_edits_put), (109, F_edit_moved)] }
abbrev R := Option ((Int) × (Unit))
abbrev C := Exit → ST cx → R
noncomputable def b : Code := bodyC Try.f68
noncomputable def h : Hint := { vs := [0, 1, 2, 6, 7, 8, 10, 14, 15, 16], nil := [(11, (.pr .ro (.own .ro)))], cuts := [(4, ([1, 2, 7, 8, 14, 15, 16], [12]), ([8], [])), (10, ([8], []), ([8], []))], ret := ([6], [10, 12]), ords := [] }
noncomputable def K0 : C := fin (S := cx) E Try.f68.results.toList (.int .i64) .ro [] []
noncomputable def c0 : Code := subC b [1]
noncomputable def K1 (k : Nat) : C := outD h c0 K0
noncomputable def K2 (k : Nat) : C := seqC E h k c0 K0
noncomputable def c1 : Code := subC b [1, 1]
noncomputable def K3 (k : Nat) : C := outD h c1 (K1 k)
noncomputable def K4 (k : Nat) : C := seqC E h k c1 (K1 k)
noncomputable def c2 : Code := subC b [1, 1, 1]
noncomputable def K5 (k : Nat) : C := outD h c2 (K3 k)
noncomputable def K6 (k : Nat) : C := seqC E h k c2 (K3 k)
noncomputable def c3 : Code := subC b [1, 1, 1, 1]
noncomputable def K7 (k : Nat) : C := outD h c3 (K5 k)
noncomputable def K8 (k : Nat) : C := seqC E h k c3 (K5 k)
noncomputable def c4 : Code := subC b [1, 1, 1, 0, 1]
noncomputable def K9 (k : Nat) : C := outD h c4 (K8 k)
noncomputable def K10 (k : Nat) : C := seqC E h k c4 (K8 k)
noncomputable def K11 (k : Nat) : C := blockK 0 (K9 k)
noncomputable def c5 : Code := subC b [1, 1, 1, 0, 1, 0, 0]
noncomputable def K12 (k n1 : Nat) : C := loopD E h k c5 (K11 k) n1
noncomputable def c6 : Code := subC b [1, 1, 1, 0, 1, 0, 0, 1]
noncomputable def K13 (k n1 : Nat) : C := outD h c6 (K12 k n1)
noncomputable def K14 (k n1 : Nat) : C := seqC E h k c6 (K12 k n1)
noncomputable def c7 : Code := subC b [1, 1, 1, 0, 1, 0, 0, 1, 1]
noncomputable def K15 (k n1 : Nat) : C := outD h c7 (K13 k n1)
noncomputable def K16 (k n1 : Nat) : C := seqC E h k c7 (K13 k n1)
noncomputable def c8 : Code := subC b [1, 1, 1, 0, 1, 0, 0, 1, 1, 1]
noncomputable def K17 (k n1 : Nat) : C := outD h c8 (K15 k n1)
noncomputable def K18 (k n1 : Nat) : C := seqC E h k c8 (K15 k n1)
noncomputable def K19 (k n1 : Nat) : C := blockK 1 (K18 k n1)
noncomputable def c9 : Code := subC b [1, 1, 1, 0, 1, 0, 0, 1, 1, 0, 0, 1]
noncomputable def K20 (k n1 : Nat) : C := outD h c9 (K19 k n1)
noncomputable def K21 (k n1 : Nat) : C := seqC E h k c9 (K19 k n1)
noncomputable def c10 : Code := subC b [1, 1, 1, 0, 1, 0, 0, 1, 1, 0, 0, 1, 1]
noncomputable def K22 (k n1 : Nat) : C := outD h c10 (K20 k n1)
noncomputable def K23 (k n1 : Nat) : C := seqC E h k c10 (K20 k n1)
noncomputable def c11 : Code := subC b [1, 1, 1, 0, 1, 0, 0, 1, 1, 0, 0, 1, 0, 1]
noncomputable def K24 (k n1 : Nat) : C := outD h c11 (K23 k n1)
noncomputable def K25 (k n1 : Nat) : C := seqC E h k c11 (K23 k n1)
noncomputable def c12 : Code := subC b [1, 1, 1, 0, 1, 0, 0, 1, 1, 0, 0, 1, 1, 1]
noncomputable def K26 (k n1 : Nat) : C := outD h c12 (K22 k n1)
noncomputable def K27 (k n1 : Nat) : C := seqC E h k c12 (K22 k n1)
noncomputable def c13 : Code := subC b [1, 1, 1, 1, 1]
noncomputable def K28 (k : Nat) : C := outD h c13 (K7 k)
noncomputable def K29 (k : Nat) : C := seqC E h k c13 (K7 k)
abbrev T2 := Int → R
abbrev T1 := Int → Bool → Int → (List ((Int) × ((Int) × (List UInt8)))) → Int → Int → (((Int) × (Int)) × (List ((Int) × ((Int) × (List UInt8))))) → R
abbrev T0 := (List ((Int) × ((Int) × (List UInt8)))) → Int → Bool → R
abbrev s2 : Int → ST cx := fun (x8 : Int) => ({ vars := [(8, .v (.int .i64) .ro x8)], scr := [], mems := [] } : ST cx)
noncomputable def u2 (k : Nat) : T2 := fun (x8 : Int) => uK (run E h k c3) (s2 x8) (K7 k)
noncomputable abbrev l2 (k : Nat) : T2 := fun (x8 : Int) => cutK (run E h k c3) (s2 x8) (K7 k)
abbrev s1 : Int → Bool → Int → (List ((Int) × ((Int) × (List UInt8)))) → Int → Int → (((Int) × (Int)) × (List ((Int) × ((Int) × (List UInt8))))) → ST cx := fun (x1 : Int) (x2 : Bool) (x8 : Int) (x14 : List ((Int) × ((Int) × (List UInt8)))) (x15 x16 : Int) (m12 : ((Int) × (Int)) × (List ((Int) × ((Int) × (List UInt8))))) => ({ vars := [(1, .v (.int .i64) .ro x1), (2, .v .bool .ro x2), (7, .addr (.mem 12) []), (8, .v (.int .i64) .ro x8), (14, .v (.slice 41 (.agg (.pair (.int .i64) (.pair (.int .i64) .str)))) .ro x14), (15, .v (.int .i64) .ro x15), (16, .v (.int .i64) .ro x16)], scr := [], mems := [(12, ⟨(.agg (.pair (.agg (.pair (.int .i64) (.int .i64))) (.slice 41 (.agg (.pair (.int .i64) (.pair (.int .i64) .str)))))), (.pr .ro (.own .ro)), m12⟩)] } : ST cx)
noncomputable def u1 (k n1 : Nat) : T1 := fun (x1 : Int) (x2 : Bool) (x8 : Int) (x14 : List ((Int) × ((Int) × (List UInt8)))) (x15 x16 : Int) (m12 : ((Int) × (Int)) × (List ((Int) × ((Int) × (List UInt8))))) => uK (loopL E h k c5 (K11 k) n1) (s1 x1 x2 x8 x14 x15 x16 m12) ()
noncomputable abbrev l1 (k n1 : Nat) : T1 := fun (x1 : Int) (x2 : Bool) (x8 : Int) (x14 : List ((Int) × ((Int) × (List UInt8)))) (x15 x16 : Int) (m12 : ((Int) × (Int)) × (List ((Int) × ((Int) × (List UInt8))))) => cutK (loopL E h k c5 (K11 k) n1) (s1 x1 x2 x8 x14 x15 x16 m12) ()
noncomputable def u0 (k : Nat) : T0 := fun (x0 : List ((Int) × ((Int) × (List UInt8)))) (x1 : Int) (x2 : Bool) => runOf (S := cx) E h k Try.f68 [.val (.slice 41 (.agg (.pair (.int .i64) (.pair (.int .i64) .str)))), .val (.int .i64), .val .bool] (.int .i64) .ro (x0, x1, x2, ())
def t2 : T2 := fun (x8 : Int) => 
  (some (x8, ()))
theorem e2 (k : Nat) : u2 k = t2 := by kernel_rfl
theorem g2 (k : Nat) : l2 k = u2 k := funext fun _ => cut_u _ _ _
def p2 (k : Nat) : T2 := t2
theorem o2 (k : Nat) : l2 k = p2 k := (Eq.trans (b := u2 k) (g2 k) (Eq.trans (b := t2) (e2 k) (by kernel_rfl)))
def t1 (f2 : T2) (f1 : T1) : T1 := fun (x1 : Int) (x2 : Bool) (x8 : Int) (x14 : List ((Int) × ((Int) × (List UInt8)))) (x15 x16 : Int) (m12 : ((Int) × (Int)) × (List ((Int) × ((Int) × (List UInt8))))) => 
  (iteB (decide (x16 < x15)) (withinR x16 (List.length x14) fun q1 => (iteB (decide (x1 < (List.getD x14 q1 ((0 : Int), ((0 : Int), ([] : List UInt8)))).1)) (f2 x8) (bindR (s_edit_moved ((List.getD x14 q1 ((0 : Int), ((0 : Int), ([] : List UInt8)))), (x1, (x2, ())))) fun r2 => (bindR (s_edit_edits_put (m12, ((List.getD x14 q1 ((0 : Int), ((0 : Int), ([] : List UInt8)))), ()))) fun r3 => (f1 x1 x2 (w64 (m12.1.1 + r2.1)) x14 x15 (w64 (x16 + (1 : Int))) r3.2.1))))) (f2 x8))
theorem e1 (k n1 : Nat) : u1 k (n1 + 1) = t1 (l2 k) (l1 k n1) := by kernel_rfl
theorem g1 (k n1 : Nat) : l1 k (n1 + 1) = u1 k (n1 + 1) := funext fun _ => funext fun _ => funext fun _ => funext fun _ => funext fun _ => funext fun _ => funext fun _ => cut_u _ _ _
theorem d1 {x2 y2 : T2} {x1 y1 : T1} (h2 : x2 = y2) (h1 : x1 = y1) : t1 x2 x1 = t1 y2 y1 := by subst h2; subst h1; rfl
def p1 (k : Nat) : Nat → T1
  | 0 => fun _ _ _ _ _ _ _ => none
  | n1 + 1 => t1 (p2 k) (p1 k n1)
theorem o1 (k : Nat) : ∀ n1, l1 k n1 = p1 k n1 := by
  intro n1
  induction n1 with
  | zero => kernel_rfl
  | succ n1 ih => exact (Eq.trans (b := u1 k (n1 + 1)) (g1 k n1) (Eq.trans (b := t1 (l2 k) (l1 k n1)) (e1 k n1) (Eq.trans (b := t1 (p2 k) (p1 k n1)) (d1 (o2 k) ih) (by kernel_rfl))))
def t0 (f1 : T1) : T0 := fun (x0 : List ((Int) × ((Int) × (List UInt8)))) (x1 : Int) (x2 : Bool) => 
  (f1 x1 x2 x1 x0 ((List.length x0 : Nat) : Int) (0 : Int) (((0 : Int), (0 : Int)), ([] : List ((Int) × ((Int) × (List UInt8))))))
theorem e0 (k : Nat) : u0 k = t0 (l1 k k) := by kernel_rfl
theorem d0 {x1 y1 : T1} (h1 : x1 = y1) : t0 x1 = t0 y1 := by subst h1; rfl
def p0 (k : Nat) : T0 := t0 (p1 k k)
theorem o0 (k : Nat) : u0 k = p0 k := (Eq.trans (b := t0 (l1 k k)) (e0 k) (Eq.trans (b := t0 (p1 k k)) (d0 (o1 k k)) (by kernel_rfl)))
end edit_Move
def s_edit_Move (a : (List ((Int) × ((Int) × (List UInt8)))) × ((Int) × ((Bool) × (Unit)))) : Option ((Int) × (Unit)) := edit_Move.p0 (fuel) a.1 a.2.1 a.2.2.1
noncomputable def F_edit_Move : FSpec cx.toNm := { ps := [.val (.slice 41 (.agg (.pair (.int .i64) (.pair (.int .i64) .str)))), .val (.int .i64), .val .bool], nres := 1, rt := (.int .i64), rm := .ro, f := s_edit_Move }
theorem w_edit_Move (a : (List ((Int) × ((Int) × (List UInt8)))) × ((Int) × ((Bool) × (Unit)))) : runOf (S := cx) edit_Move.E edit_Move.h (fuel) Try.f68 F_edit_Move.ps F_edit_Move.rt F_edit_Move.rm a = F_edit_Move.f a := Eq.trans (b := edit_Move.u0 (fuel) a.1 a.2.1 a.2.2.1) (by kernel_rfl) (Eq.trans (b := edit_Move.p0 (fuel) a.1 a.2.1 a.2.2.1) (congrFun (congrFun (congrFun (edit_Move.o0 (fuel)) a.1) a.2.1) a.2.2.1) (by kernel_rfl))
theorem ok_edit_Move : FnOk Try.prog F_edit_Move 68 := fn_of (hn := edit_Move.h) (E := edit_Move.E) cxOk (tysT _) (fs_cons ok_edit_edits_put (fs_cons ok_edit_moved fs_nil)) follows Try.func68 (by kernel_rfl) (fun a r h => ⟨fuel, Eq.trans (w_edit_Move a) h⟩)
namespace law04_Great
noncomputable def E : Env cx := { tys := tys, fs := fsOf [] }
abbrev R := Option ((Bool) × (Unit))
abbrev C := Exit → ST cx → R
noncomputable def b : Code := bodyC Try.f18
noncomputable def h : Hint := { vs := [0, 2, 3], nil := [], cuts := [(4, ([0, 3], []), ([], [])), (8, ([], []), ([], []))], ret := ([2], []), ords := [] }
noncomputable def K0 : C := fin (S := cx) E Try.f18.results.toList .bool .ro [] []
noncomputable def c0 : Code := subC b [1]
noncomputable def K1 (k : Nat) : C := outD h c0 K0
noncomputable def K2 (k : Nat) : C := seqC E h k c0 K0
noncomputable def c1 : Code := subC b [1, 1]
noncomputable def K3 (k : Nat) : C := outD h c1 (K1 k)
noncomputable def K4 (k : Nat) : C := seqC E h k c1 (K1 k)
noncomputable def c2 : Code := subC b [1, 0, 1]
noncomputable def K5 (k : Nat) : C := outD h c2 (K4 k)
noncomputable def K6 (k : Nat) : C := seqC E h k c2 (K4 k)
noncomputable def c3 : Code := subC b [1, 0, 1, 0, 1]
noncomputable def K7 (k : Nat) : C := outD h c3 (K5 k)
noncomputable def K8 (k : Nat) : C := seqC E h k c3 (K5 k)
noncomputable def c4 : Code := subC b [1, 1, 1]
noncomputable def K9 (k : Nat) : C := outD h c4 (K3 k)
noncomputable def K10 (k : Nat) : C := seqC E h k c4 (K3 k)
noncomputable def c5 : Code := subC b [1, 1, 0, 1]
noncomputable def K11 (k : Nat) : C := outD h c5 (K10 k)
noncomputable def K12 (k : Nat) : C := seqC E h k c5 (K10 k)
noncomputable def K13 (k : Nat) : C := blockK 0 (K11 k)
noncomputable def c6 : Code := subC b [1, 1, 0, 1, 0, 0]
noncomputable def K14 (k n1 : Nat) : C := loopD E h k c6 (K13 k) n1
noncomputable def c7 : Code := subC b [1, 1, 0, 1, 0, 0, 1]
noncomputable def K15 (k n1 : Nat) : C := outD h c7 (K14 k n1)
noncomputable def K16 (k n1 : Nat) : C := seqC E h k c7 (K14 k n1)
noncomputable def c8 : Code := subC b [1, 1, 0, 1, 0, 0, 0, 1]
noncomputable def K17 (k n1 : Nat) : C := outD h c8 (K16 k n1)
noncomputable def K18 (k n1 : Nat) : C := seqC E h k c8 (K16 k n1)
noncomputable def c9 : Code := subC b [1, 1, 0, 1, 0, 0, 1, 1]
noncomputable def K19 (k n1 : Nat) : C := outD h c9 (K15 k n1)
noncomputable def K20 (k n1 : Nat) : C := seqC E h k c9 (K15 k n1)
noncomputable def K21 (k n1 : Nat) : C := blockK 1 (K20 k n1)
noncomputable def c10 : Code := subC b [1, 1, 0, 1, 0, 0, 1, 0, 0, 1]
noncomputable def K22 (k n1 : Nat) : C := outD h c10 (K21 k n1)
noncomputable def K23 (k n1 : Nat) : C := seqC E h k c10 (K21 k n1)
noncomputable def c11 : Code := subC b [1, 1, 0, 1, 0, 0, 1, 0, 0, 1, 0, 1]
noncomputable def K24 (k n1 : Nat) : C := outD h c11 (K22 k n1)
noncomputable def K25 (k n1 : Nat) : C := seqC E h k c11 (K22 k n1)
noncomputable def c12 : Code := subC b [1, 1, 1, 1]
noncomputable def K26 (k : Nat) : C := outD h c12 (K9 k)
noncomputable def K27 (k : Nat) : C := seqC E h k c12 (K9 k)
abbrev T2 := R
abbrev T1 := (List ((Int) × ((Int) × (List UInt8)))) → Int → R
abbrev T0 := (List ((Int) × ((Int) × (List UInt8)))) → R
abbrev s2 : ST cx := ({ vars := [], scr := [], mems := [] } : ST cx)
noncomputable def u2 (k : Nat) : T2 := uK (run E h k c4) s2 (K9 k)
noncomputable abbrev l2 (k : Nat) : T2 := cutK (run E h k c4) s2 (K9 k)
abbrev s1 : (List ((Int) × ((Int) × (List UInt8)))) → Int → ST cx := fun (x0 : List ((Int) × ((Int) × (List UInt8)))) (x3 : Int) => ({ vars := [(0, .v (.slice 41 (.agg (.pair (.int .i64) (.pair (.int .i64) .str)))) .ro x0), (3, .v (.int .i64) .ro x3)], scr := [], mems := [] } : ST cx)
noncomputable def u1 (k n1 : Nat) : T1 := fun (x0 : List ((Int) × ((Int) × (List UInt8)))) (x3 : Int) => uK (loopL E h k c6 (K13 k) n1) (s1 x0 x3) ()
noncomputable abbrev l1 (k n1 : Nat) : T1 := fun (x0 : List ((Int) × ((Int) × (List UInt8)))) (x3 : Int) => cutK (loopL E h k c6 (K13 k) n1) (s1 x0 x3) ()
noncomputable def u0 (k : Nat) : T0 := fun (x0 : List ((Int) × ((Int) × (List UInt8)))) => runOf (S := cx) E h k Try.f18 [.val (.slice 41 (.agg (.pair (.int .i64) (.pair (.int .i64) .str))))] .bool .ro (x0, ())
def t2 : T2 := 
  (some (false, ()))
theorem e2 (k : Nat) : u2 k = t2 := by kernel_rfl
theorem g2 (k : Nat) : l2 k = u2 k := cut_u _ _ _
def p2 (k : Nat) : T2 := t2
theorem o2 (k : Nat) : l2 k = p2 k := (Eq.trans (b := u2 k) (g2 k) (Eq.trans (b := t2) (e2 k) (by kernel_rfl)))
def t1 (f1 : T1) (f2 : T2) : T1 := fun (x0 : List ((Int) × ((Int) × (List UInt8)))) (x3 : Int) => 
  (iteB (decide (x3 < ((List.length x0 : Nat) : Int))) (withinR x3 (List.length x0) fun q1 => (iteB (decide ((4500 : Int) < ((List.length (List.getD x0 q1 ((0 : Int), ((0 : Int), ([] : List UInt8)))).2.2 : Nat) : Int))) (some (true, ())) (f1 x0 (w64 (x3 + (1 : Int)))))) f2)
theorem e1 (k n1 : Nat) : u1 k (n1 + 1) = t1 (l1 k n1) (l2 k) := by kernel_rfl
theorem g1 (k n1 : Nat) : l1 k (n1 + 1) = u1 k (n1 + 1) := funext fun _ => funext fun _ => cut_u _ _ _
theorem d1 {x1 y1 : T1} {x2 y2 : T2} (h1 : x1 = y1) (h2 : x2 = y2) : t1 x1 x2 = t1 y1 y2 := by subst h1; subst h2; rfl
def p1 (k : Nat) : Nat → T1
  | 0 => fun _ _ => none
  | n1 + 1 => t1 (p1 k n1) (p2 k)
theorem o1 (k : Nat) : ∀ n1, l1 k n1 = p1 k n1 := by
  intro n1
  induction n1 with
  | zero => kernel_rfl
  | succ n1 ih => exact (Eq.trans (b := u1 k (n1 + 1)) (g1 k n1) (Eq.trans (b := t1 (l1 k n1) (l2 k)) (e1 k n1) (Eq.trans (b := t1 (p1 k n1) (p2 k)) (d1 ih (o2 k)) (by kernel_rfl))))
def t0 (f1 : T1) : T0 := fun (x0 : List ((Int) × ((Int) × (List UInt8)))) => 
  (iteB (decide ((30 : Int) < ((List.length x0 : Nat) : Int))) (some (true, ())) (f1 x0 (0 : Int)))
theorem e0 (k : Nat) : u0 k = t0 (l1 k k) := by kernel_rfl
theorem d0 {x1 y1 : T1} (h1 : x1 = y1) : t0 x1 = t0 y1 := by subst h1; rfl
def p0 (k : Nat) : T0 := t0 (p1 k k)
theorem o0 (k : Nat) : u0 k = p0 k := (Eq.trans (b := t0 (l1 k k)) (e0 k) (Eq.trans (b := t0 (p1 k k)) (d0 (o1 k k)) (by kernel_rfl)))
end law04_Great
def s_law04_Great (a : (List ((Int) × ((Int) × (List UInt8)))) × (Unit)) : Option ((Bool) × (Unit)) := law04_Great.p0 (fuel) a.1
noncomputable def F_law04_Great : FSpec cx.toNm := { ps := [.val (.slice 41 (.agg (.pair (.int .i64) (.pair (.int .i64) .str))))], nres := 1, rt := .bool, rm := .ro, f := s_law04_Great }
theorem w_law04_Great (a : (List ((Int) × ((Int) × (List UInt8)))) × (Unit)) : runOf (S := cx) law04_Great.E law04_Great.h (fuel) Try.f18 F_law04_Great.ps F_law04_Great.rt F_law04_Great.rm a = F_law04_Great.f a := Eq.trans (b := law04_Great.u0 (fuel) a.1) (by kernel_rfl) (Eq.trans (b := law04_Great.p0 (fuel) a.1) (congrFun (law04_Great.o0 (fuel)) a.1) (by kernel_rfl))
theorem ok_law04_Great : FnOk Try.prog F_law04_Great 18 := fn_of (hn := law04_Great.h) (E := law04_Great.E) cxOk (tysT _) fs_nil follows Try.func18 (by kernel_rfl) (fun a r h => ⟨fuel, Eq.trans (w_law04_Great a) h⟩)
namespace ref01_First
noncomputable def E : Env cx := { tys := tys, fs := fsOf [(49, F_ref01_Bytes), (100, F_ref01_Sign)] }
abbrev R := Option (((Int) × (Int)) × (Unit))
abbrev C := Exit → ST cx → R
noncomputable def b : Code := bodyC Try.f107
noncomputable def h : Hint := { vs := [0, 2, 3, 4, 5, 6, 7, 8, 9], nil := [], cuts := [(2, ([0, 4], []), ([], [])), (3, ([0, 4], []), ([0, 4], [])), (4, ([0, 4], []), ([0, 4], [])), (6, ([0, 4, 5, 6], []), ([0, 4], [])), (9, ([0, 4], []), ([0, 4], [])), (15, ([0, 4, 5, 8, 9], []), ([0, 4, 5, 8], [])), (18, ([0, 4, 5, 8], []), ([0, 4], [])), (19, ([0, 4, 5, 74], []), ([0, 4], [])), (20, ([], []), ([], []))], ret := ([2, 3], []), ords := [(18, [0, 1, 2, 3, 4, 5, 6, 7, 9, 10, 11, 8, 12, 13])] }
noncomputable def K0 : C := fin (S := cx) E Try.f107.results.toList (.pair (.int .i64) (.int .i64)) .ro [] []
noncomputable def c0 : Code := subC b [1]
noncomputable def K1 (k : Nat) : C := outD h c0 K0
noncomputable def K2 (k : Nat) : C := seqC E h k c0 K0
noncomputable def c1 : Code := subC b [1, 1]
noncomputable def K3 (k : Nat) : C := outD h c1 (K1 k)
noncomputable def K4 (k : Nat) : C := seqC E h k c1 (K1 k)
noncomputable def c2 : Code := subC b [1, 0, 1]
noncomputable def K5 (k : Nat) : C := outD h c2 (K4 k)
noncomputable def K6 (k : Nat) : C := seqC E h k c2 (K4 k)
noncomputable def K7 (k : Nat) : C := blockK 0 (K5 k)
noncomputable def c3 : Code := subC b [1, 0, 1, 0, 0]
noncomputable def K8 (k n1 : Nat) : C := loopD E h k c3 (K7 k) n1
noncomputable def c4 : Code := subC b [1, 0, 1, 0, 0, 1]
noncomputable def K9 (k n1 : Nat) : C := outD h c4 (K8 k n1)
noncomputable def K10 (k n1 : Nat) : C := seqC E h k c4 (K8 k n1)
noncomputable def c5 : Code := subC b [1, 0, 1, 0, 0, 0, 1]
noncomputable def K11 (k n1 : Nat) : C := outD h c5 (K10 k n1)
noncomputable def K12 (k n1 : Nat) : C := seqC E h k c5 (K10 k n1)
noncomputable def c6 : Code := subC b [1, 0, 1, 0, 0, 1, 1]
noncomputable def K13 (k n1 : Nat) : C := outD h c6 (K9 k n1)
noncomputable def K14 (k n1 : Nat) : C := seqC E h k c6 (K9 k n1)
noncomputable def K15 (k n1 : Nat) : C := blockK 1 (K14 k n1)
noncomputable def c7 : Code := subC b [1, 0, 1, 0, 0, 1, 0, 0, 1]
noncomputable def K16 (k n1 : Nat) : C := outD h c7 (K15 k n1)
noncomputable def K17 (k n1 : Nat) : C := seqC E h k c7 (K15 k n1)
noncomputable def c8 : Code := subC b [1, 0, 1, 0, 0, 1, 0, 0, 1, 1]
noncomputable def K18 (k n1 : Nat) : C := outD h c8 (K16 k n1)
noncomputable def K19 (k n1 : Nat) : C := seqC E h k c8 (K16 k n1)
noncomputable def c9 : Code := subC b [1, 0, 1, 0, 0, 1, 0, 0, 1, 0, 1]
noncomputable def K20 (k n1 : Nat) : C := outD h c9 (K19 k n1)
noncomputable def K21 (k n1 : Nat) : C := seqC E h k c9 (K19 k n1)
noncomputable def K22 (k n1 : Nat) : C := blockK 2 (K20 k n1)
noncomputable def c10 : Code := subC b [1, 0, 1, 0, 0, 1, 0, 0, 1, 0, 1, 0, 0]
noncomputable def K23 (k n1 n4 : Nat) : C := loopD E h k c10 (K22 k n1) n4
noncomputable def c11 : Code := subC b [1, 0, 1, 0, 0, 1, 0, 0, 1, 0, 1, 0, 0, 1]
noncomputable def K24 (k n1 n4 : Nat) : C := outD h c11 (K23 k n1 n4)
noncomputable def K25 (k n1 n4 : Nat) : C := seqC E h k c11 (K23 k n1 n4)
noncomputable def c12 : Code := subC b [1, 0, 1, 0, 0, 1, 0, 0, 1, 0, 1, 0, 0, 0, 1]
noncomputable def K26 (k n1 n4 : Nat) : C := outD h c12 (K25 k n1 n4)
noncomputable def K27 (k n1 n4 : Nat) : C := seqC E h k c12 (K25 k n1 n4)
noncomputable def c13 : Code := subC b [1, 0, 1, 0, 0, 1, 0, 0, 1, 0, 1, 0, 0, 1, 1]
noncomputable def K28 (k n1 n4 : Nat) : C := outD h c13 (K24 k n1 n4)
noncomputable def K29 (k n1 n4 : Nat) : C := seqC E h k c13 (K24 k n1 n4)
noncomputable def K30 (k n1 n4 : Nat) : C := blockK 3 (K29 k n1 n4)
noncomputable def c14 : Code := subC b [1, 0, 1, 0, 0, 1, 0, 0, 1, 1, 1]
noncomputable def K31 (k n1 : Nat) : C := outD h c14 (K18 k n1)
noncomputable def K32 (k n1 : Nat) : C := seqC E h k c14 (K18 k n1)
noncomputable def c15 : Code := subC b [1, 0, 1, 0, 0, 1, 0, 0, 1, 1, 1, 1]
noncomputable def K33 (k n1 : Nat) : C := outD h c15 (K31 k n1)
noncomputable def K34 (k n1 : Nat) : C := seqC E h k c15 (K31 k n1)
noncomputable def c16 : Code := subC b [1, 0, 1, 0, 0, 1, 0, 0, 1, 1, 1, 1, 1]
noncomputable def K35 (k n1 : Nat) : C := outD h c16 (K33 k n1)
noncomputable def K36 (k n1 : Nat) : C := seqC E h k c16 (K33 k n1)
noncomputable def c17 : Code := subC b [1, 0, 1, 0, 0, 1, 0, 0, 1, 1, 1, 1, 0, 1]
noncomputable def K37 (k n1 : Nat) : C := outD h c17 (K36 k n1)
noncomputable def K38 (k n1 : Nat) : C := seqC E h k c17 (K36 k n1)
noncomputable def c18 : Code := subC b [1, 0, 1, 0, 0, 1, 0, 0, 1, 1, 1, 1, 0, 1, 1, 1]
noncomputable def K39 (k n1 : Nat) : C := outD h c18 (K37 k n1)
noncomputable def K40 (k n1 : Nat) : C := seqC E h k c18 (K37 k n1)
noncomputable def c19 : Code := subC b [1, 0, 1, 0, 0, 1, 0, 0, 1, 1, 1, 1, 0, 1, 1, 1, 1]
noncomputable def K41 (k n1 : Nat) : C := outD h c19 (K39 k n1)
noncomputable def K42 (k n1 : Nat) : C := seqC E h k c19 (K39 k n1)
noncomputable def K43 (k n1 : Nat) : C := blockK 4 (K41 k n1)
noncomputable def c20 : Code := subC b [1, 0, 1, 0, 0, 1, 0, 0, 1, 1, 1, 1, 1, 1]
noncomputable def K44 (k n1 : Nat) : C := outD h c20 (K35 k n1)
noncomputable def K45 (k n1 : Nat) : C := seqC E h k c20 (K35 k n1)
noncomputable def c21 : Code := subC b [1, 0, 1, 0, 0, 1, 0, 0, 1, 1, 1, 1, 1, 1, 0, 1]
noncomputable def K46 (k n1 : Nat) : C := outD h c21 (K44 k n1)
noncomputable def K47 (k n1 : Nat) : C := seqC E h k c21 (K44 k n1)
noncomputable def c22 : Code := subC b [1, 0, 1, 0, 0, 1, 0, 0, 1, 1, 1, 1, 0, 1, 1, 1, 1, 0, 0]
noncomputable def K48 (k n1 n7 : Nat) : C := loopD E h k c22 (K43 k n1) n7
noncomputable def c23 : Code := subC b [1, 0, 1, 0, 0, 1, 0, 0, 1, 1, 1, 1, 0, 1, 1, 1, 1, 0, 0, 1]
noncomputable def K49 (k n1 n7 : Nat) : C := outD h c23 (K48 k n1 n7)
noncomputable def K50 (k n1 n7 : Nat) : C := seqC E h k c23 (K48 k n1 n7)
noncomputable def c24 : Code := subC b [1, 0, 1, 0, 0, 1, 0, 0, 1, 1, 1, 1, 0, 1, 1, 1, 1, 0, 0, 0, 1]
noncomputable def K51 (k n1 n7 : Nat) : C := outD h c24 (K50 k n1 n7)
noncomputable def K52 (k n1 n7 : Nat) : C := seqC E h k c24 (K50 k n1 n7)
noncomputable def c25 : Code := subC b [1, 0, 1, 0, 0, 1, 0, 0, 1, 1, 1, 1, 0, 1, 1, 1, 1, 0, 0, 1, 1]
noncomputable def K53 (k n1 n7 : Nat) : C := outD h c25 (K49 k n1 n7)
noncomputable def K54 (k n1 n7 : Nat) : C := seqC E h k c25 (K49 k n1 n7)
noncomputable def K55 (k n1 n7 : Nat) : C := blockK 5 (K54 k n1 n7)
noncomputable def c26 : Code := subC b [1, 1, 1]
noncomputable def K56 (k : Nat) : C := outD h c26 (K3 k)
noncomputable def K57 (k : Nat) : C := seqC E h k c26 (K3 k)
abbrev T9 := (List UInt8) → Int → R
abbrev T8 := (List UInt8) → Int → Int → Bool → R
abbrev T6 := (List UInt8) → Int → Int → Int → R
abbrev T7 := (List UInt8) → Int → Int → Int → Int → R
abbrev T5 := (List UInt8) → Int → R
abbrev T4 := (List UInt8) → Int → Int → Int → R
abbrev T2 := (List UInt8) → Int → R
abbrev T3 := R
abbrev T1 := (List UInt8) → Int → R
abbrev T0 := (List UInt8) → R
abbrev s9 : (List UInt8) → Int → ST cx := fun (x0 : List UInt8) (x4 : Int) => ({ vars := [(0, .v .str .ro x0), (4, .v (.int .i64) .ro x4)], scr := [], mems := [] } : ST cx)
noncomputable def u9 (k n1 : Nat) : T9 := fun (x0 : List UInt8) (x4 : Int) => uK (run E h k c6) (s9 x0 x4) (K13 k n1)
noncomputable abbrev l9 (k n1 : Nat) : T9 := fun (x0 : List UInt8) (x4 : Int) => cutK (run E h k c6) (s9 x0 x4) (K13 k n1)
abbrev s8 : (List UInt8) → Int → Int → Bool → ST cx := fun (x0 : List UInt8) (x4 x5 : Int) (x74 : Bool) => ({ vars := [(0, .v .str .ro x0), (4, .v (.int .i64) .ro x4), (5, .v (.int .i64) .ro x5), (74, .v .bool .ro x74)], scr := [], mems := [] } : ST cx)
noncomputable def u8 (k n1 : Nat) : T8 := fun (x0 : List UInt8) (x4 x5 : Int) (x74 : Bool) => uK (run E h k c20) (s8 x0 x4 x5 x74) (K44 k n1)
noncomputable abbrev l8 (k n1 : Nat) : T8 := fun (x0 : List UInt8) (x4 x5 : Int) (x74 : Bool) => cutK (run E h k c20) (s8 x0 x4 x5 x74) (K44 k n1)
abbrev s6 : (List UInt8) → Int → Int → Int → ST cx := fun (x0 : List UInt8) (x4 x5 x8 : Int) => ({ vars := [(0, .v .str .ro x0), (4, .v (.int .i64) .ro x4), (5, .v (.int .i64) .ro x5), (8, .v (.int .i64) .ro x8)], scr := [], mems := [] } : ST cx)
noncomputable def u6 (k n1 : Nat) : T6 := fun (x0 : List UInt8) (x4 x5 x8 : Int) => uK (run E h k c16) (s6 x0 x4 x5 x8) (K35 k n1)
noncomputable abbrev l6 (k n1 : Nat) : T6 := fun (x0 : List UInt8) (x4 x5 x8 : Int) => cutK (run E h k c16) (s6 x0 x4 x5 x8) (K35 k n1)
abbrev s7 : (List UInt8) → Int → Int → Int → Int → ST cx := fun (x0 : List UInt8) (x4 x5 x8 x9 : Int) => ({ vars := [(0, .v .str .ro x0), (4, .v (.int .i64) .ro x4), (5, .v (.int .i64) .ro x5), (8, .v (.int .i64) .ro x8), (9, .v (.int .i64) .ro x9)], scr := [], mems := [] } : ST cx)
noncomputable def u7 (k n1 n7 : Nat) : T7 := fun (x0 : List UInt8) (x4 x5 x8 x9 : Int) => uK (loopL E h k c22 (K43 k n1) n7) (s7 x0 x4 x5 x8 x9) ()
noncomputable abbrev l7 (k n1 n7 : Nat) : T7 := fun (x0 : List UInt8) (x4 x5 x8 x9 : Int) => cutK (loopL E h k c22 (K43 k n1) n7) (s7 x0 x4 x5 x8 x9) ()
abbrev s5 : (List UInt8) → Int → ST cx := fun (x0 : List UInt8) (x4 : Int) => ({ vars := [(0, .v .str .ro x0), (4, .v (.int .i64) .ro x4)], scr := [], mems := [] } : ST cx)
noncomputable def u5 (k n1 : Nat) : T5 := fun (x0 : List UInt8) (x4 : Int) => uK (run E h k c8) (s5 x0 x4) (K18 k n1)
noncomputable abbrev l5 (k n1 : Nat) : T5 := fun (x0 : List UInt8) (x4 : Int) => cutK (run E h k c8) (s5 x0 x4) (K18 k n1)
abbrev s4 : (List UInt8) → Int → Int → Int → ST cx := fun (x0 : List UInt8) (x4 x5 x6 : Int) => ({ vars := [(0, .v .str .ro x0), (4, .v (.int .i64) .ro x4), (5, .v (.int .i64) .ro x5), (6, .v (.int .i64) .ro x6)], scr := [], mems := [] } : ST cx)
noncomputable def u4 (k n1 n4 : Nat) : T4 := fun (x0 : List UInt8) (x4 x5 x6 : Int) => uK (loopL E h k c10 (K22 k n1) n4) (s4 x0 x4 x5 x6) ()
noncomputable abbrev l4 (k n1 n4 : Nat) : T4 := fun (x0 : List UInt8) (x4 x5 x6 : Int) => cutK (loopL E h k c10 (K22 k n1) n4) (s4 x0 x4 x5 x6) ()
abbrev s2 : (List UInt8) → Int → ST cx := fun (x0 : List UInt8) (x4 : Int) => ({ vars := [(0, .v .str .ro x0), (4, .v (.int .i64) .ro x4)], scr := [], mems := [] } : ST cx)
noncomputable def u2 (k n1 : Nat) : T2 := fun (x0 : List UInt8) (x4 : Int) => uK (run E h k c4) (s2 x0 x4) (K9 k n1)
noncomputable abbrev l2 (k n1 : Nat) : T2 := fun (x0 : List UInt8) (x4 : Int) => cutK (run E h k c4) (s2 x0 x4) (K9 k n1)
abbrev s3 : ST cx := ({ vars := [], scr := [], mems := [] } : ST cx)
noncomputable def u3 (k : Nat) : T3 := uK (run E h k c1) s3 (K3 k)
noncomputable abbrev l3 (k : Nat) : T3 := cutK (run E h k c1) s3 (K3 k)
abbrev s1 : (List UInt8) → Int → ST cx := fun (x0 : List UInt8) (x4 : Int) => ({ vars := [(0, .v .str .ro x0), (4, .v (.int .i64) .ro x4)], scr := [], mems := [] } : ST cx)
noncomputable def u1 (k n1 : Nat) : T1 := fun (x0 : List UInt8) (x4 : Int) => uK (loopL E h k c3 (K7 k) n1) (s1 x0 x4) ()
noncomputable abbrev l1 (k n1 : Nat) : T1 := fun (x0 : List UInt8) (x4 : Int) => cutK (loopL E h k c3 (K7 k) n1) (s1 x0 x4) ()
noncomputable def u0 (k : Nat) : T0 := fun (x0 : List UInt8) => runOf (S := cx) E h k Try.f107 [.val .str] (.pair (.int .i64) (.int .i64)) .ro (x0, ())
def t9 (f1 : T1) : T9 := fun (x0 : List UInt8) (x4 : Int) => 
  (f1 x0 (w64 (x4 + (1 : Int))))
theorem e9 (k n1 : Nat) : u9 k n1 = t9 (l1 k n1) := by kernel_rfl
theorem g9 (k n1 : Nat) : l9 k n1 = u9 k n1 := funext fun _ => funext fun _ => cut_u _ _ _
theorem d9 {x1 y1 : T1} (h1 : x1 = y1) : t9 x1 = t9 y1 := by subst h1; rfl
def p9 (k : Nat) (a1 : T1) : T9 := t9 a1
theorem o9 (k n1 : Nat) (a1 : T1) (h1 : l1 k n1 = a1) : l9 k n1 = p9 k a1 := (Eq.trans (b := u9 k n1) (g9 k n1) (Eq.trans (b := t9 (l1 k n1)) (e9 k n1) (Eq.trans (b := t9 a1) (d9 h1) (by kernel_rfl))))
def t8 (f9 : T9) : T8 := fun (x0 : List UInt8) (x4 x5 : Int) (x74 : Bool) => 
  (iteB x74 (some ((x5, x4), ())) (f9 x0 x4))
theorem e8 (k n1 : Nat) : u8 k n1 = t8 (l9 k n1) := by kernel_rfl
theorem g8 (k n1 : Nat) : l8 k n1 = u8 k n1 := funext fun _ => funext fun _ => funext fun _ => funext fun _ => cut_u _ _ _
theorem d8 {x9 y9 : T9} (h9 : x9 = y9) : t8 x9 = t8 y9 := by subst h9; rfl
def p8 (k : Nat) (a1 : T1) : T8 := t8 (p9 k a1)
theorem o8 (k n1 : Nat) (a1 : T1) (h1 : l1 k n1 = a1) : l8 k n1 = p8 k a1 := (Eq.trans (b := u8 k n1) (g8 k n1) (Eq.trans (b := t8 (l9 k n1)) (e8 k n1) (Eq.trans (b := t8 (p9 k a1)) (d8 (o9 k n1 a1 h1)) (by kernel_rfl))))
def t6 (f8 : T8) : T6 := fun (x0 : List UInt8) (x4 x5 x8 : Int) => 
  (iteB (decide ((0 : Int) ≤ x8)) (bindR (s_ref01_Sign (x5, ())) fun r5 => (iteB r5.1 (mustR (decide (0 ≤ x4)) (mustR (decide (x4 ≤ (((List.length x0) : Nat) : Int))) (bindR (s_ref01_Bytes (x5, ())) fun r6 => (f8 x0 x4 x5 (decide (r6.1 = (List.drop 0 (List.take (Int.toNat x4) x0)))))))) (f8 x0 x4 x5 false))) (f8 x0 x4 x5 false))
theorem e6 (k n1 : Nat) : u6 k n1 = t6 (l8 k n1) := by kernel_rfl
theorem g6 (k n1 : Nat) : l6 k n1 = u6 k n1 := funext fun _ => funext fun _ => funext fun _ => funext fun _ => cut_u _ _ _
theorem d6 {x8 y8 : T8} (h8 : x8 = y8) : t6 x8 = t6 y8 := by subst h8; rfl
def p6 (k : Nat) (a1 : T1) : T6 := t6 (p8 k a1)
theorem o6 (k n1 : Nat) (a1 : T1) (h1 : l1 k n1 = a1) : l6 k n1 = p6 k a1 := (Eq.trans (b := u6 k n1) (g6 k n1) (Eq.trans (b := t6 (l8 k n1)) (e6 k n1) (Eq.trans (b := t6 (p8 k a1)) (d6 (o8 k n1 a1 h1)) (by kernel_rfl))))
def t7 (f7 : T7) (f6 : T6) : T7 := fun (x0 : List UInt8) (x4 x5 x8 x9 : Int) => 
  (iteB (decide (x9 < x4)) (withinR x9 (List.length x0) fun q7 => (f7 x0 x4 (w64 ((w64 ((64 : Int) * x5)) + (w64 ((Int.tmod (byteAt x0 q7) (64 : Int)))))) x8 (w64 (x9 + (1 : Int))))) (f6 x0 x4 x5 x8))
theorem e7 (k n1 n7 : Nat) : u7 k n1 (n7 + 1) = t7 (l7 k n1 n7) (l6 k n1) := by kernel_rfl
theorem g7 (k n1 n7 : Nat) : l7 k n1 (n7 + 1) = u7 k n1 (n7 + 1) := funext fun _ => funext fun _ => funext fun _ => funext fun _ => funext fun _ => cut_u _ _ _
theorem d7 {x7 y7 : T7} {x6 y6 : T6} (h7 : x7 = y7) (h6 : x6 = y6) : t7 x7 x6 = t7 y7 y6 := by subst h7; subst h6; rfl
def p7 (k : Nat) (a1 : T1) : Nat → T7
  | 0 => fun _ _ _ _ _ => none
  | n7 + 1 => t7 (p7 k a1 n7) (p6 k a1)
theorem o7 (k n1 : Nat) (a1 : T1) (h1 : l1 k n1 = a1) : ∀ n7, l7 k n1 n7 = p7 k a1 n7 := by
  intro n7
  induction n7 with
  | zero => kernel_rfl
  | succ n7 ih => exact (Eq.trans (b := u7 k n1 (n7 + 1)) (g7 k n1 n7) (Eq.trans (b := t7 (l7 k n1 n7) (l6 k n1)) (e7 k n1 n7) (Eq.trans (b := t7 (p7 k a1 n7) (p6 k a1)) (d7 ih (o6 k n1 a1 h1)) (by kernel_rfl))))
def t5 (f6 : T6) (f7 : T7) : T5 := fun (x0 : List UInt8) (x4 : Int) => 
  (withinR x4 (List.length ([(0 : Int), (0 : Int), (192 : Int), (224 : Int), (240 : Int)] : List (Int))) fun q2 => (withinR (0 : Int) (List.length x0) fun q3 => (iteB (decide (x4 = (1 : Int))) (withinR (0 : Int) (List.length x0) fun q4 => (f6 x0 x4 (w64 ((byteAt x0 q4))) (w64 ((w64 ((byteAt x0 q3))) - (List.getD ([(0 : Int), (0 : Int), (192 : Int), (224 : Int), (240 : Int)] : List (Int)) q2 (0 : Int)))))) (f7 x0 x4 (w64 ((w64 ((byteAt x0 q3))) - (List.getD ([(0 : Int), (0 : Int), (192 : Int), (224 : Int), (240 : Int)] : List (Int)) q2 (0 : Int)))) (w64 ((w64 ((byteAt x0 q3))) - (List.getD ([(0 : Int), (0 : Int), (192 : Int), (224 : Int), (240 : Int)] : List (Int)) q2 (0 : Int)))) (1 : Int)))))
theorem e5 (k n1 : Nat) : u5 k n1 = t5 (l6 k n1) (l7 k n1 k) := by kernel_rfl
theorem g5 (k n1 : Nat) : l5 k n1 = u5 k n1 := funext fun _ => funext fun _ => cut_u _ _ _
theorem d5 {x6 y6 : T6} {x7 y7 : T7} (h6 : x6 = y6) (h7 : x7 = y7) : t5 x6 x7 = t5 y6 y7 := by subst h6; subst h7; rfl
def p5 (k : Nat) (a1 : T1) : T5 := t5 (p6 k a1) (p7 k a1 k)
theorem o5 (k n1 : Nat) (a1 : T1) (h1 : l1 k n1 = a1) : l5 k n1 = p5 k a1 := (Eq.trans (b := u5 k n1) (g5 k n1) (Eq.trans (b := t5 (l6 k n1) (l7 k n1 k)) (e5 k n1) (Eq.trans (b := t5 (p6 k a1) (p7 k a1 k)) (d5 (o6 k n1 a1 h1) (o7 k n1 a1 h1 k)) (by kernel_rfl))))
def t4 (f4 : T4) (f5 : T5) : T4 := fun (x0 : List UInt8) (x4 x5 x6 : Int) => 
  (iteB (decide (x6 < x4)) (withinR x6 (List.length x0) fun q1 => (f4 x0 x4 (w64 ((w64 ((64 : Int) * x5)) + (w64 ((Int.tmod (byteAt x0 q1) (64 : Int)))))) (w64 (x6 + (1 : Int))))) (f5 x0 x4))
theorem e4 (k n1 n4 : Nat) : u4 k n1 (n4 + 1) = t4 (l4 k n1 n4) (l5 k n1) := by kernel_rfl
theorem g4 (k n1 n4 : Nat) : l4 k n1 (n4 + 1) = u4 k n1 (n4 + 1) := funext fun _ => funext fun _ => funext fun _ => funext fun _ => cut_u _ _ _
theorem d4 {x4 y4 : T4} {x5 y5 : T5} (h4 : x4 = y4) (h5 : x5 = y5) : t4 x4 x5 = t4 y4 y5 := by subst h4; subst h5; rfl
def p4 (k : Nat) (a1 : T1) : Nat → T4
  | 0 => fun _ _ _ _ => none
  | n4 + 1 => t4 (p4 k a1 n4) (p5 k a1)
theorem o4 (k n1 : Nat) (a1 : T1) (h1 : l1 k n1 = a1) : ∀ n4, l4 k n1 n4 = p4 k a1 n4 := by
  intro n4
  induction n4 with
  | zero => kernel_rfl
  | succ n4 ih => exact (Eq.trans (b := u4 k n1 (n4 + 1)) (g4 k n1 n4) (Eq.trans (b := t4 (l4 k n1 n4) (l5 k n1)) (e4 k n1 n4) (Eq.trans (b := t4 (p4 k a1 n4) (p5 k a1)) (d4 ih (o5 k n1 a1 h1)) (by kernel_rfl))))
def t2 (f4 : T4) : T2 := fun (x0 : List UInt8) (x4 : Int) => 
  (f4 x0 x4 (0 : Int) (0 : Int))
theorem e2 (k n1 : Nat) : u2 k n1 = t2 (l4 k n1 k) := by kernel_rfl
theorem g2 (k n1 : Nat) : l2 k n1 = u2 k n1 := funext fun _ => funext fun _ => cut_u _ _ _
theorem d2 {x4 y4 : T4} (h4 : x4 = y4) : t2 x4 = t2 y4 := by subst h4; rfl
def p2 (k : Nat) (a1 : T1) : T2 := t2 (p4 k a1 k)
theorem o2 (k n1 : Nat) (a1 : T1) (h1 : l1 k n1 = a1) : l2 k n1 = p2 k a1 := (Eq.trans (b := u2 k n1) (g2 k n1) (Eq.trans (b := t2 (l4 k n1 k)) (e2 k n1) (Eq.trans (b := t2 (p4 k a1 k)) (d2 (o4 k n1 a1 h1 k)) (by kernel_rfl))))
def t3 : T3 := 
  (some (((-1 : Int), (0 : Int)), ()))
theorem e3 (k : Nat) : u3 k = t3 := by kernel_rfl
theorem g3 (k : Nat) : l3 k = u3 k := cut_u _ _ _
def p3 (k : Nat) : T3 := t3
theorem o3 (k : Nat) : l3 k = p3 k := (Eq.trans (b := u3 k) (g3 k) (Eq.trans (b := t3) (e3 k) (by kernel_rfl)))
def t1 (f2 : T2) (f3 : T3) : T1 := fun (x0 : List UInt8) (x4 : Int) => 
  (iteB (decide (x4 ≤ (4 : Int))) (iteB (decide (x4 ≤ ((List.length x0 : Nat) : Int))) (f2 x0 x4) f3) f3)
theorem e1 (k n1 : Nat) : u1 k (n1 + 1) = t1 (l2 k n1) (l3 k) := by kernel_rfl
theorem g1 (k n1 : Nat) : l1 k (n1 + 1) = u1 k (n1 + 1) := funext fun _ => funext fun _ => cut_u _ _ _
theorem d1 {x2 y2 : T2} {x3 y3 : T3} (h2 : x2 = y2) (h3 : x3 = y3) : t1 x2 x3 = t1 y2 y3 := by subst h2; subst h3; rfl
def p1 (k : Nat) : Nat → T1
  | 0 => fun _ _ => none
  | n1 + 1 => t1 (p2 k (p1 k n1)) (p3 k)
theorem o1 (k : Nat) : ∀ n1, l1 k n1 = p1 k n1 := by
  intro n1
  induction n1 with
  | zero => kernel_rfl
  | succ n1 ih => exact (Eq.trans (b := u1 k (n1 + 1)) (g1 k n1) (Eq.trans (b := t1 (l2 k n1) (l3 k)) (e1 k n1) (Eq.trans (b := t1 (p2 k (p1 k n1)) (p3 k)) (d1 (o2 k n1 (p1 k n1) ih) (o3 k)) (by kernel_rfl))))
def t0 (f1 : T1) : T0 := fun (x0 : List UInt8) => 
  (f1 x0 (1 : Int))
theorem e0 (k : Nat) : u0 k = t0 (l1 k k) := by kernel_rfl
theorem d0 {x1 y1 : T1} (h1 : x1 = y1) : t0 x1 = t0 y1 := by subst h1; rfl
def p0 (k : Nat) : T0 := t0 (p1 k k)
theorem o0 (k : Nat) : u0 k = p0 k := (Eq.trans (b := t0 (l1 k k)) (e0 k) (Eq.trans (b := t0 (p1 k k)) (d0 (o1 k k)) (by kernel_rfl)))
end ref01_First
def s_ref01_First (a : (List UInt8) × (Unit)) : Option (((Int) × (Int)) × (Unit)) := ref01_First.p0 (fuel) a.1
noncomputable def F_ref01_First : FSpec cx.toNm := { ps := [.val .str], nres := 2, rt := (.pair (.int .i64) (.int .i64)), rm := .ro, f := s_ref01_First }
theorem w_ref01_First (a : (List UInt8) × (Unit)) : runOf (S := cx) ref01_First.E ref01_First.h (fuel) Try.f107 F_ref01_First.ps F_ref01_First.rt F_ref01_First.rm a = F_ref01_First.f a := Eq.trans (b := ref01_First.u0 (fuel) a.1) (by kernel_rfl) (Eq.trans (b := ref01_First.p0 (fuel) a.1) (congrFun (ref01_First.o0 (fuel)) a.1) (by kernel_rfl))
theorem ok_ref01_First : FnOk Try.prog F_ref01_First 107 := fn_of (hn := ref01_First.h) (E := ref01_First.E) cxOk (tysT _) (fs_cons ok_ref01_Bytes (fs_cons ok_ref01_Sign fs_nil)) follows Try.func107 (by kernel_rfl) (fun a r h => ⟨fuel, Eq.trans (w_ref01_First a) h⟩)
namespace ref01_Whole
noncomputable def E : Env cx := { tys := tys, fs := fsOf [(107, F_ref01_First)] }
abbrev R := Option ((Bool) × (Unit))
abbrev C := Exit → ST cx → R
noncomputable def b : Code := bodyC Try.f64
noncomputable def h : Hint := { vs := [0, 2, 4], nil := [], cuts := [(1, ([0], []), ([0], [])), (6, ([], []), ([], []))], ret := ([2], []), ords := [] }
noncomputable def K0 : C := fin (S := cx) E Try.f64.results.toList .bool .ro [] []
noncomputable def c0 : Code := subC b [1]
noncomputable def K1 (k : Nat) : C := outD h c0 K0
noncomputable def K2 (k : Nat) : C := seqC E h k c0 K0
noncomputable def c1 : Code := subC b [1, 1]
noncomputable def K3 (k : Nat) : C := outD h c1 (K1 k)
noncomputable def K4 (k : Nat) : C := seqC E h k c1 (K1 k)
noncomputable def K5 (k : Nat) : C := blockK 0 (K4 k)
noncomputable def c2 : Code := subC b [1, 0, 0, 0]
noncomputable def K6 (k n1 : Nat) : C := loopD E h k c2 (K5 k) n1
noncomputable def c3 : Code := subC b [1, 0, 0, 0, 1]
noncomputable def K7 (k n1 : Nat) : C := outD h c3 (K6 k n1)
noncomputable def K8 (k n1 : Nat) : C := seqC E h k c3 (K6 k n1)
noncomputable def c4 : Code := subC b [1, 0, 0, 0, 0, 1]
noncomputable def K9 (k n1 : Nat) : C := outD h c4 (K8 k n1)
noncomputable def K10 (k n1 : Nat) : C := seqC E h k c4 (K8 k n1)
noncomputable def K11 (k n1 : Nat) : C := blockK 1 (K7 k n1)
noncomputable def c5 : Code := subC b [1, 0, 0, 0, 1, 0, 1]
noncomputable def K12 (k n1 : Nat) : C := outD h c5 (K11 k n1)
noncomputable def K13 (k n1 : Nat) : C := seqC E h k c5 (K11 k n1)
noncomputable def c6 : Code := subC b [1, 0, 0, 0, 1, 0, 1, 1]
noncomputable def K14 (k n1 : Nat) : C := outD h c6 (K12 k n1)
noncomputable def K15 (k n1 : Nat) : C := seqC E h k c6 (K12 k n1)
noncomputable def c7 : Code := subC b [1, 0, 0, 0, 1, 0, 1, 0, 1]
noncomputable def K16 (k n1 : Nat) : C := outD h c7 (K15 k n1)
noncomputable def K17 (k n1 : Nat) : C := seqC E h k c7 (K15 k n1)
noncomputable def c8 : Code := subC b [1, 0, 0, 0, 1, 0, 1, 0, 1, 0, 1]
noncomputable def K18 (k n1 : Nat) : C := outD h c8 (K16 k n1)
noncomputable def K19 (k n1 : Nat) : C := seqC E h k c8 (K16 k n1)
noncomputable def c9 : Code := subC b [1, 1, 1]
noncomputable def K20 (k : Nat) : C := outD h c9 (K3 k)
noncomputable def K21 (k : Nat) : C := seqC E h k c9 (K3 k)
abbrev T2 := R
abbrev T1 := (List UInt8) → R
abbrev T0 := (List UInt8) → R
abbrev s2 : ST cx := ({ vars := [], scr := [], mems := [] } : ST cx)
noncomputable def u2 (k : Nat) : T2 := uK (run E h k c1) s2 (K3 k)
noncomputable abbrev l2 (k : Nat) : T2 := cutK (run E h k c1) s2 (K3 k)
abbrev s1 : (List UInt8) → ST cx := fun (x0 : List UInt8) => ({ vars := [(0, .v .str .ro x0)], scr := [], mems := [] } : ST cx)
noncomputable def u1 (k n1 : Nat) : T1 := fun (x0 : List UInt8) => uK (loopL E h k c2 (K5 k) n1) (s1 x0) ()
noncomputable abbrev l1 (k n1 : Nat) : T1 := fun (x0 : List UInt8) => cutK (loopL E h k c2 (K5 k) n1) (s1 x0) ()
noncomputable def u0 (k : Nat) : T0 := fun (x0 : List UInt8) => runOf (S := cx) E h k Try.f64 [.val .str] .bool .ro (x0, ())
def t2 : T2 := 
  (some (true, ()))
theorem e2 (k : Nat) : u2 k = t2 := by kernel_rfl
theorem g2 (k : Nat) : l2 k = u2 k := cut_u _ _ _
def p2 (k : Nat) : T2 := t2
theorem o2 (k : Nat) : l2 k = p2 k := (Eq.trans (b := u2 k) (g2 k) (Eq.trans (b := t2) (e2 k) (by kernel_rfl)))
def t1 (f1 : T1) (f2 : T2) : T1 := fun (x0 : List UInt8) => 
  (iteB (decide ((0 : Int) < ((List.length x0 : Nat) : Int))) (bindR (s_ref01_First (x0, ())) fun r1 => (iteB (decide (r1.1.2 = (0 : Int))) (some (false, ())) (mustR (decide (0 ≤ r1.1.2)) (mustR (decide (r1.1.2 ≤ (((List.length x0) : Nat) : Int))) (f1 (List.drop (Int.toNat r1.1.2) (List.take (List.length x0) x0))))))) f2)
theorem e1 (k n1 : Nat) : u1 k (n1 + 1) = t1 (l1 k n1) (l2 k) := by kernel_rfl
theorem g1 (k n1 : Nat) : l1 k (n1 + 1) = u1 k (n1 + 1) := funext fun _ => cut_u _ _ _
theorem d1 {x1 y1 : T1} {x2 y2 : T2} (h1 : x1 = y1) (h2 : x2 = y2) : t1 x1 x2 = t1 y1 y2 := by subst h1; subst h2; rfl
def p1 (k : Nat) : Nat → T1
  | 0 => fun _ => none
  | n1 + 1 => t1 (p1 k n1) (p2 k)
theorem o1 (k : Nat) : ∀ n1, l1 k n1 = p1 k n1 := by
  intro n1
  induction n1 with
  | zero => kernel_rfl
  | succ n1 ih => exact (Eq.trans (b := u1 k (n1 + 1)) (g1 k n1) (Eq.trans (b := t1 (l1 k n1) (l2 k)) (e1 k n1) (Eq.trans (b := t1 (p1 k n1) (p2 k)) (d1 ih (o2 k)) (by kernel_rfl))))
def t0 (f1 : T1) : T0 := fun (x0 : List UInt8) => 
  (f1 x0)
theorem e0 (k : Nat) : u0 k = t0 (l1 k k) := by kernel_rfl
theorem d0 {x1 y1 : T1} (h1 : x1 = y1) : t0 x1 = t0 y1 := by subst h1; rfl
def p0 (k : Nat) : T0 := t0 (p1 k k)
theorem o0 (k : Nat) : u0 k = p0 k := (Eq.trans (b := t0 (l1 k k)) (e0 k) (Eq.trans (b := t0 (p1 k k)) (d0 (o1 k k)) (by kernel_rfl)))
end ref01_Whole
def s_ref01_Whole (a : (List UInt8) × (Unit)) : Option ((Bool) × (Unit)) := ref01_Whole.p0 (fuel) a.1
noncomputable def F_ref01_Whole : FSpec cx.toNm := { ps := [.val .str], nres := 1, rt := .bool, rm := .ro, f := s_ref01_Whole }
theorem w_ref01_Whole (a : (List UInt8) × (Unit)) : runOf (S := cx) ref01_Whole.E ref01_Whole.h (fuel) Try.f64 F_ref01_Whole.ps F_ref01_Whole.rt F_ref01_Whole.rm a = F_ref01_Whole.f a := Eq.trans (b := ref01_Whole.u0 (fuel) a.1) (by kernel_rfl) (Eq.trans (b := ref01_Whole.p0 (fuel) a.1) (congrFun (ref01_Whole.o0 (fuel)) a.1) (by kernel_rfl))
theorem ok_ref01_Whole : FnOk Try.prog F_ref01_Whole 64 := fn_of (hn := ref01_Whole.h) (E := ref01_Whole.E) cxOk (tysT _) (fs_cons ok_ref01_First fs_nil) follows Try.func64 (by kernel_rfl) (fun a r h => ⟨fuel, Eq.trans (w_ref01_Whole a) h⟩)
namespace ref04_Check
noncomputable def E : Env cx := { tys := tys, fs := fsOf [(52, F_ref01_Edge), (64, F_ref01_Whole)] }
abbrev R := Option ((Int) × (Unit))
abbrev C := Exit → ST cx → R
noncomputable def b : Code := bodyC Try.f19
noncomputable def h : Hint := { vs := [0, 1, 4, 5, 6, 7, 8], nil := [], cuts := [(3, ([0, 1, 5, 6, 7], []), ([6], [])), (4, ([0, 1, 5, 6, 7], []), ([0, 1, 5, 6, 7], [])), (7, ([0, 1, 6, 7, 8, 46], [8]), ([0, 1, 6, 7, 8], [8])), (8, ([0, 1, 6, 7, 8], [8]), ([0, 1, 5, 6, 7], [])), (9, ([0, 1, 6, 7, 8, 67], [8]), ([0, 1, 6, 7, 8], [8])), (10, ([0, 1, 6, 7, 8], [8]), ([0, 1, 5, 6, 7], [])), (12, ([6], []), ([6], []))], ret := ([4], [8]), ords := [] }
noncomputable def K0 : C := fin (S := cx) E Try.f19.results.toList (.int .i64) .ro [] []
noncomputable def c0 : Code := subC b [1]
noncomputable def K1 (k : Nat) : C := outD h c0 K0
noncomputable def K2 (k : Nat) : C := seqC E h k c0 K0
noncomputable def c1 : Code := subC b [1, 1]
noncomputable def K3 (k : Nat) : C := outD h c1 (K1 k)
noncomputable def K4 (k : Nat) : C := seqC E h k c1 (K1 k)
noncomputable def c2 : Code := subC b [1, 1, 1]
noncomputable def K5 (k : Nat) : C := outD h c2 (K3 k)
noncomputable def K6 (k : Nat) : C := seqC E h k c2 (K3 k)
noncomputable def c3 : Code := subC b [1, 1, 0, 1]
noncomputable def K7 (k : Nat) : C := outD h c3 (K6 k)
noncomputable def K8 (k : Nat) : C := seqC E h k c3 (K6 k)
noncomputable def K9 (k : Nat) : C := blockK 0 (K7 k)
noncomputable def c4 : Code := subC b [1, 1, 0, 1, 0, 0]
noncomputable def K10 (k n1 : Nat) : C := loopD E h k c4 (K9 k) n1
noncomputable def c5 : Code := subC b [1, 1, 0, 1, 0, 0, 1]
noncomputable def K11 (k n1 : Nat) : C := outD h c5 (K10 k n1)
noncomputable def K12 (k n1 : Nat) : C := seqC E h k c5 (K10 k n1)
noncomputable def c6 : Code := subC b [1, 1, 0, 1, 0, 0, 0, 1]
noncomputable def K13 (k n1 : Nat) : C := outD h c6 (K12 k n1)
noncomputable def K14 (k n1 : Nat) : C := seqC E h k c6 (K12 k n1)
noncomputable def c7 : Code := subC b [1, 1, 0, 1, 0, 0, 1, 1]
noncomputable def K15 (k n1 : Nat) : C := outD h c7 (K11 k n1)
noncomputable def K16 (k n1 : Nat) : C := seqC E h k c7 (K11 k n1)
noncomputable def K17 (k n1 : Nat) : C := blockK 1 (K16 k n1)
noncomputable def c8 : Code := subC b [1, 1, 0, 1, 0, 0, 1, 0, 0, 1]
noncomputable def K18 (k n1 : Nat) : C := outD h c8 (K17 k n1)
noncomputable def K19 (k n1 : Nat) : C := seqC E h k c8 (K17 k n1)
noncomputable def c9 : Code := subC b [1, 1, 0, 1, 0, 0, 1, 0, 0, 1, 1]
noncomputable def K20 (k n1 : Nat) : C := outD h c9 (K18 k n1)
noncomputable def K21 (k n1 : Nat) : C := seqC E h k c9 (K18 k n1)
noncomputable def c10 : Code := subC b [1, 1, 0, 1, 0, 0, 1, 0, 0, 1, 0, 1]
noncomputable def K22 (k n1 : Nat) : C := outD h c10 (K21 k n1)
noncomputable def K23 (k n1 : Nat) : C := seqC E h k c10 (K21 k n1)
noncomputable def c11 : Code := subC b [1, 1, 0, 1, 0, 0, 1, 0, 0, 1, 0, 1, 0, 1]
noncomputable def K24 (k n1 : Nat) : C := outD h c11 (K22 k n1)
noncomputable def K25 (k n1 : Nat) : C := seqC E h k c11 (K22 k n1)
noncomputable def c12 : Code := subC b [1, 1, 0, 1, 0, 0, 1, 0, 0, 1, 1, 1]
noncomputable def K26 (k n1 : Nat) : C := outD h c12 (K20 k n1)
noncomputable def K27 (k n1 : Nat) : C := seqC E h k c12 (K20 k n1)
noncomputable def c13 : Code := subC b [1, 1, 0, 1, 0, 0, 1, 0, 0, 1, 1, 0, 1]
noncomputable def K28 (k n1 : Nat) : C := outD h c13 (K27 k n1)
noncomputable def K29 (k n1 : Nat) : C := seqC E h k c13 (K27 k n1)
noncomputable def c14 : Code := subC b [1, 1, 0, 1, 0, 0, 1, 0, 0, 1, 1, 0, 1, 0, 1]
noncomputable def K30 (k n1 : Nat) : C := outD h c14 (K28 k n1)
noncomputable def K31 (k n1 : Nat) : C := seqC E h k c14 (K28 k n1)
noncomputable def c15 : Code := subC b [1, 1, 0, 1, 0, 0, 1, 0, 0, 1, 1, 1, 1]
noncomputable def K32 (k n1 : Nat) : C := outD h c15 (K26 k n1)
noncomputable def K33 (k n1 : Nat) : C := seqC E h k c15 (K26 k n1)
noncomputable def c16 : Code := subC b [1, 1, 1, 1]
noncomputable def K34 (k : Nat) : C := outD h c16 (K5 k)
noncomputable def K35 (k : Nat) : C := seqC E h k c16 (K5 k)
noncomputable def c17 : Code := subC b [1, 1, 1, 0, 1]
noncomputable def K36 (k : Nat) : C := outD h c17 (K35 k)
noncomputable def K37 (k : Nat) : C := seqC E h k c17 (K35 k)
noncomputable def c18 : Code := subC b [1, 1, 1, 0, 1, 0, 1]
noncomputable def K38 (k : Nat) : C := outD h c18 (K36 k)
noncomputable def K39 (k : Nat) : C := seqC E h k c18 (K36 k)
noncomputable def c19 : Code := subC b [1, 1, 1, 1, 1]
noncomputable def K40 (k : Nat) : C := outD h c19 (K34 k)
noncomputable def K41 (k : Nat) : C := seqC E h k c19 (K34 k)
abbrev T7 := (List UInt8) → (List ((Int) × ((Int) × (List UInt8)))) → Int → Int → Int → R
abbrev T6 := (List UInt8) → (List ((Int) × ((Int) × (List UInt8)))) → Int → Int → ((Int) × ((Int) × (List UInt8))) → R
abbrev T5 := (List UInt8) → (List ((Int) × ((Int) × (List UInt8)))) → Int → Int → Bool → ((Int) × ((Int) × (List UInt8))) → R
abbrev T4 := (List UInt8) → (List ((Int) × ((Int) × (List UInt8)))) → Int → Int → ((Int) × ((Int) × (List UInt8))) → R
abbrev T2 := (List UInt8) → (List ((Int) × ((Int) × (List UInt8)))) → Int → Int → Bool → ((Int) × ((Int) × (List UInt8))) → R
abbrev T3 := Int → R
abbrev T1 := (List UInt8) → (List ((Int) × ((Int) × (List UInt8)))) → Int → Int → Int → R
abbrev T0 := (List UInt8) → (List ((Int) × ((Int) × (List UInt8)))) → R
abbrev s7 : (List UInt8) → (List ((Int) × ((Int) × (List UInt8)))) → Int → Int → Int → ST cx := fun (x0 : List UInt8) (x1 : List ((Int) × ((Int) × (List UInt8)))) (x5 x6 x7 : Int) => ({ vars := [(0, .v .str .ro x0), (1, .v (.slice 41 (.agg (.pair (.int .i64) (.pair (.int .i64) .str)))) .ro x1), (5, .v (.int .i64) .ro x5), (6, .v (.int .i64) .ro x6), (7, .v (.int .i64) .ro x7)], scr := [], mems := [] } : ST cx)
noncomputable def u7 (k n1 : Nat) : T7 := fun (x0 : List UInt8) (x1 : List ((Int) × ((Int) × (List UInt8)))) (x5 x6 x7 : Int) => uK (run E h k c7) (s7 x0 x1 x5 x6 x7) (K15 k n1)
noncomputable abbrev l7 (k n1 : Nat) : T7 := fun (x0 : List UInt8) (x1 : List ((Int) × ((Int) × (List UInt8)))) (x5 x6 x7 : Int) => cutK (run E h k c7) (s7 x0 x1 x5 x6 x7) (K15 k n1)
abbrev s6 : (List UInt8) → (List ((Int) × ((Int) × (List UInt8)))) → Int → Int → ((Int) × ((Int) × (List UInt8))) → ST cx := fun (x0 : List UInt8) (x1 : List ((Int) × ((Int) × (List UInt8)))) (x6 x7 : Int) (m8 : (Int) × ((Int) × (List UInt8))) => ({ vars := [(0, .v .str .ro x0), (1, .v (.slice 41 (.agg (.pair (.int .i64) (.pair (.int .i64) .str)))) .ro x1), (6, .v (.int .i64) .ro x6), (7, .v (.int .i64) .ro x7), (8, .addr (.mem 8) [])], scr := [], mems := [(8, ⟨(.agg (.pair (.int .i64) (.pair (.int .i64) .str))), .ro, m8⟩)] } : ST cx)
noncomputable def u6 (k n1 : Nat) : T6 := fun (x0 : List UInt8) (x1 : List ((Int) × ((Int) × (List UInt8)))) (x6 x7 : Int) (m8 : (Int) × ((Int) × (List UInt8))) => uK (run E h k c12) (s6 x0 x1 x6 x7 m8) (K26 k n1)
noncomputable abbrev l6 (k n1 : Nat) : T6 := fun (x0 : List UInt8) (x1 : List ((Int) × ((Int) × (List UInt8)))) (x6 x7 : Int) (m8 : (Int) × ((Int) × (List UInt8))) => cutK (run E h k c12) (s6 x0 x1 x6 x7 m8) (K26 k n1)
abbrev s5 : (List UInt8) → (List ((Int) × ((Int) × (List UInt8)))) → Int → Int → Bool → ((Int) × ((Int) × (List UInt8))) → ST cx := fun (x0 : List UInt8) (x1 : List ((Int) × ((Int) × (List UInt8)))) (x6 x7 : Int) (x67 : Bool) (m8 : (Int) × ((Int) × (List UInt8))) => ({ vars := [(0, .v .str .ro x0), (1, .v (.slice 41 (.agg (.pair (.int .i64) (.pair (.int .i64) .str)))) .ro x1), (6, .v (.int .i64) .ro x6), (7, .v (.int .i64) .ro x7), (8, .addr (.mem 8) []), (67, .v .bool .ro x67)], scr := [], mems := [(8, ⟨(.agg (.pair (.int .i64) (.pair (.int .i64) .str))), .ro, m8⟩)] } : ST cx)
noncomputable def u5 (k n1 : Nat) : T5 := fun (x0 : List UInt8) (x1 : List ((Int) × ((Int) × (List UInt8)))) (x6 x7 : Int) (x67 : Bool) (m8 : (Int) × ((Int) × (List UInt8))) => uK (run E h k c13) (s5 x0 x1 x6 x7 x67 m8) (K28 k n1)
noncomputable abbrev l5 (k n1 : Nat) : T5 := fun (x0 : List UInt8) (x1 : List ((Int) × ((Int) × (List UInt8)))) (x6 x7 : Int) (x67 : Bool) (m8 : (Int) × ((Int) × (List UInt8))) => cutK (run E h k c13) (s5 x0 x1 x6 x7 x67 m8) (K28 k n1)
abbrev s4 : (List UInt8) → (List ((Int) × ((Int) × (List UInt8)))) → Int → Int → ((Int) × ((Int) × (List UInt8))) → ST cx := fun (x0 : List UInt8) (x1 : List ((Int) × ((Int) × (List UInt8)))) (x6 x7 : Int) (m8 : (Int) × ((Int) × (List UInt8))) => ({ vars := [(0, .v .str .ro x0), (1, .v (.slice 41 (.agg (.pair (.int .i64) (.pair (.int .i64) .str)))) .ro x1), (6, .v (.int .i64) .ro x6), (7, .v (.int .i64) .ro x7), (8, .addr (.mem 8) [])], scr := [], mems := [(8, ⟨(.agg (.pair (.int .i64) (.pair (.int .i64) .str))), .ro, m8⟩)] } : ST cx)
noncomputable def u4 (k n1 : Nat) : T4 := fun (x0 : List UInt8) (x1 : List ((Int) × ((Int) × (List UInt8)))) (x6 x7 : Int) (m8 : (Int) × ((Int) × (List UInt8))) => uK (run E h k c9) (s4 x0 x1 x6 x7 m8) (K20 k n1)
noncomputable abbrev l4 (k n1 : Nat) : T4 := fun (x0 : List UInt8) (x1 : List ((Int) × ((Int) × (List UInt8)))) (x6 x7 : Int) (m8 : (Int) × ((Int) × (List UInt8))) => cutK (run E h k c9) (s4 x0 x1 x6 x7 m8) (K20 k n1)
abbrev s2 : (List UInt8) → (List ((Int) × ((Int) × (List UInt8)))) → Int → Int → Bool → ((Int) × ((Int) × (List UInt8))) → ST cx := fun (x0 : List UInt8) (x1 : List ((Int) × ((Int) × (List UInt8)))) (x6 x7 : Int) (x46 : Bool) (m8 : (Int) × ((Int) × (List UInt8))) => ({ vars := [(0, .v .str .ro x0), (1, .v (.slice 41 (.agg (.pair (.int .i64) (.pair (.int .i64) .str)))) .ro x1), (6, .v (.int .i64) .ro x6), (7, .v (.int .i64) .ro x7), (8, .addr (.mem 8) []), (46, .v .bool .ro x46)], scr := [], mems := [(8, ⟨(.agg (.pair (.int .i64) (.pair (.int .i64) .str))), .ro, m8⟩)] } : ST cx)
noncomputable def u2 (k n1 : Nat) : T2 := fun (x0 : List UInt8) (x1 : List ((Int) × ((Int) × (List UInt8)))) (x6 x7 : Int) (x46 : Bool) (m8 : (Int) × ((Int) × (List UInt8))) => uK (run E h k c10) (s2 x0 x1 x6 x7 x46 m8) (K22 k n1)
noncomputable abbrev l2 (k n1 : Nat) : T2 := fun (x0 : List UInt8) (x1 : List ((Int) × ((Int) × (List UInt8)))) (x6 x7 : Int) (x46 : Bool) (m8 : (Int) × ((Int) × (List UInt8))) => cutK (run E h k c10) (s2 x0 x1 x6 x7 x46 m8) (K22 k n1)
abbrev s3 : Int → ST cx := fun (x6 : Int) => ({ vars := [(6, .v (.int .i64) .ro x6)], scr := [], mems := [] } : ST cx)
noncomputable def u3 (k : Nat) : T3 := fun (x6 : Int) => uK (run E h k c2) (s3 x6) (K5 k)
noncomputable abbrev l3 (k : Nat) : T3 := fun (x6 : Int) => cutK (run E h k c2) (s3 x6) (K5 k)
abbrev s1 : (List UInt8) → (List ((Int) × ((Int) × (List UInt8)))) → Int → Int → Int → ST cx := fun (x0 : List UInt8) (x1 : List ((Int) × ((Int) × (List UInt8)))) (x5 x6 x7 : Int) => ({ vars := [(0, .v .str .ro x0), (1, .v (.slice 41 (.agg (.pair (.int .i64) (.pair (.int .i64) .str)))) .ro x1), (5, .v (.int .i64) .ro x5), (6, .v (.int .i64) .ro x6), (7, .v (.int .i64) .ro x7)], scr := [], mems := [] } : ST cx)
noncomputable def u1 (k n1 : Nat) : T1 := fun (x0 : List UInt8) (x1 : List ((Int) × ((Int) × (List UInt8)))) (x5 x6 x7 : Int) => uK (loopL E h k c4 (K9 k) n1) (s1 x0 x1 x5 x6 x7) ()
noncomputable abbrev l1 (k n1 : Nat) : T1 := fun (x0 : List UInt8) (x1 : List ((Int) × ((Int) × (List UInt8)))) (x5 x6 x7 : Int) => cutK (loopL E h k c4 (K9 k) n1) (s1 x0 x1 x5 x6 x7) ()
noncomputable def u0 (k : Nat) : T0 := fun (x0 : List UInt8) (x1 : List ((Int) × ((Int) × (List UInt8)))) => runOf (S := cx) E h k Try.f19 [.val .str, .val (.slice 41 (.agg (.pair (.int .i64) (.pair (.int .i64) .str))))] (.int .i64) .ro (x0, x1, ())
def t7 (f1 : T1) : T7 := fun (x0 : List UInt8) (x1 : List ((Int) × ((Int) × (List UInt8)))) (x5 x6 x7 : Int) => 
  (f1 x0 x1 x5 x6 (w64 (x7 + (1 : Int))))
theorem e7 (k n1 : Nat) : u7 k n1 = t7 (l1 k n1) := by kernel_rfl
theorem g7 (k n1 : Nat) : l7 k n1 = u7 k n1 := funext fun _ => funext fun _ => funext fun _ => funext fun _ => funext fun _ => cut_u _ _ _
theorem d7 {x1 y1 : T1} (h1 : x1 = y1) : t7 x1 = t7 y1 := by subst h1; rfl
def p7 (k : Nat) (a1 : T1) : T7 := t7 a1
theorem o7 (k n1 : Nat) (a1 : T1) (h1 : l1 k n1 = a1) : l7 k n1 = p7 k a1 := (Eq.trans (b := u7 k n1) (g7 k n1) (Eq.trans (b := t7 (l1 k n1)) (e7 k n1) (Eq.trans (b := t7 a1) (d7 h1) (by kernel_rfl))))
def t6 (f7 : T7) : T6 := fun (x0 : List UInt8) (x1 : List ((Int) × ((Int) × (List UInt8)))) (x6 x7 : Int) (m8 : (Int) × ((Int) × (List UInt8))) => 
  (f7 x0 x1 (w64 (m8.1 + m8.2.1)) (w64 ((w64 (x6 + ((List.length m8.2.2 : Nat) : Int))) - m8.2.1)) x7)
theorem e6 (k n1 : Nat) : u6 k n1 = t6 (l7 k n1) := by kernel_rfl
theorem g6 (k n1 : Nat) : l6 k n1 = u6 k n1 := funext fun _ => funext fun _ => funext fun _ => funext fun _ => funext fun _ => cut_u _ _ _
theorem d6 {x7 y7 : T7} (h7 : x7 = y7) : t6 x7 = t6 y7 := by subst h7; rfl
def p6 (k : Nat) (a1 : T1) : T6 := t6 (p7 k a1)
theorem o6 (k n1 : Nat) (a1 : T1) (h1 : l1 k n1 = a1) : l6 k n1 = p6 k a1 := (Eq.trans (b := u6 k n1) (g6 k n1) (Eq.trans (b := t6 (l7 k n1)) (e6 k n1) (Eq.trans (b := t6 (p7 k a1)) (d6 (o7 k n1 a1 h1)) (by kernel_rfl))))
def t5 (f6 : T6) : T5 := fun (x0 : List UInt8) (x1 : List ((Int) × ((Int) × (List UInt8)))) (x6 x7 : Int) (x67 : Bool) (m8 : (Int) × ((Int) × (List UInt8))) => 
  (iteB x67 (some ((2 : Int), ())) (f6 x0 x1 x6 x7 m8))
theorem e5 (k n1 : Nat) : u5 k n1 = t5 (l6 k n1) := by kernel_rfl
theorem g5 (k n1 : Nat) : l5 k n1 = u5 k n1 := funext fun _ => funext fun _ => funext fun _ => funext fun _ => funext fun _ => funext fun _ => cut_u _ _ _
theorem d5 {x6 y6 : T6} (h6 : x6 = y6) : t5 x6 = t5 y6 := by subst h6; rfl
def p5 (k : Nat) (a1 : T1) : T5 := t5 (p6 k a1)
theorem o5 (k n1 : Nat) (a1 : T1) (h1 : l1 k n1 = a1) : l5 k n1 = p5 k a1 := (Eq.trans (b := u5 k n1) (g5 k n1) (Eq.trans (b := t5 (l6 k n1)) (e5 k n1) (Eq.trans (b := t5 (p6 k a1)) (d5 (o6 k n1 a1 h1)) (by kernel_rfl))))
def t4 (f5 : T5) : T4 := fun (x0 : List UInt8) (x1 : List ((Int) × ((Int) × (List UInt8)))) (x6 x7 : Int) (m8 : (Int) × ((Int) × (List UInt8))) => 
  (bindR (s_ref01_Edge (x0, (m8.1, ()))) fun r2 => (iteB (notB r2.1) (f5 x0 x1 x6 x7 true m8) (bindR (s_ref01_Edge (x0, ((w64 (m8.1 + m8.2.1)), ()))) fun r3 => (iteB (notB r3.1) (f5 x0 x1 x6 x7 true m8) (bindR (s_ref01_Whole (m8.2.2, ())) fun r4 => (f5 x0 x1 x6 x7 (notB r4.1) m8))))))
theorem e4 (k n1 : Nat) : u4 k n1 = t4 (l5 k n1) := by kernel_rfl
theorem g4 (k n1 : Nat) : l4 k n1 = u4 k n1 := funext fun _ => funext fun _ => funext fun _ => funext fun _ => funext fun _ => cut_u _ _ _
theorem d4 {x5 y5 : T5} (h5 : x5 = y5) : t4 x5 = t4 y5 := by subst h5; rfl
def p4 (k : Nat) (a1 : T1) : T4 := t4 (p5 k a1)
theorem o4 (k n1 : Nat) (a1 : T1) (h1 : l1 k n1 = a1) : l4 k n1 = p4 k a1 := (Eq.trans (b := u4 k n1) (g4 k n1) (Eq.trans (b := t4 (l5 k n1)) (e4 k n1) (Eq.trans (b := t4 (p5 k a1)) (d4 (o5 k n1 a1 h1)) (by kernel_rfl))))
def t2 (f4 : T4) : T2 := fun (x0 : List UInt8) (x1 : List ((Int) × ((Int) × (List UInt8)))) (x6 x7 : Int) (x46 : Bool) (m8 : (Int) × ((Int) × (List UInt8))) => 
  (iteB x46 (some ((3 : Int), ())) (f4 x0 x1 x6 x7 m8))
theorem e2 (k n1 : Nat) : u2 k n1 = t2 (l4 k n1) := by kernel_rfl
theorem g2 (k n1 : Nat) : l2 k n1 = u2 k n1 := funext fun _ => funext fun _ => funext fun _ => funext fun _ => funext fun _ => funext fun _ => cut_u _ _ _
theorem d2 {x4 y4 : T4} (h4 : x4 = y4) : t2 x4 = t2 y4 := by subst h4; rfl
def p2 (k : Nat) (a1 : T1) : T2 := t2 (p4 k a1)
theorem o2 (k n1 : Nat) (a1 : T1) (h1 : l1 k n1 = a1) : l2 k n1 = p2 k a1 := (Eq.trans (b := u2 k n1) (g2 k n1) (Eq.trans (b := t2 (l4 k n1)) (e2 k n1) (Eq.trans (b := t2 (p4 k a1)) (d2 (o4 k n1 a1 h1)) (by kernel_rfl))))
def t3 : T3 := fun (x6 : Int) => 
  (iteB (decide ((4000 : Int) < x6)) (some ((4 : Int), ())) (some ((0 : Int), ())))
theorem e3 (k : Nat) : u3 k = t3 := by kernel_rfl
theorem g3 (k : Nat) : l3 k = u3 k := funext fun _ => cut_u _ _ _
def p3 (k : Nat) : T3 := t3
theorem o3 (k : Nat) : l3 k = p3 k := (Eq.trans (b := u3 k) (g3 k) (Eq.trans (b := t3) (e3 k) (by kernel_rfl)))
def t1 (f2 : T2) (f3 : T3) : T1 := fun (x0 : List UInt8) (x1 : List ((Int) × ((Int) × (List UInt8)))) (x5 x6 x7 : Int) => 
  (iteB (decide (x7 < ((List.length x1 : Nat) : Int))) (withinR x7 (List.length x1) fun q1 => (iteB (decide ((List.getD x1 q1 ((0 : Int), ((0 : Int), ([] : List UInt8)))).1 < x5)) (f2 x0 x1 x6 x7 true (List.getD x1 q1 ((0 : Int), ((0 : Int), ([] : List UInt8))))) (iteB (decide (((List.length x0 : Nat) : Int) < (List.getD x1 q1 ((0 : Int), ((0 : Int), ([] : List UInt8)))).1)) (f2 x0 x1 x6 x7 true (List.getD x1 q1 ((0 : Int), ((0 : Int), ([] : List UInt8))))) (iteB (decide ((List.getD x1 q1 ((0 : Int), ((0 : Int), ([] : List UInt8)))).2.1 < (0 : Int))) (f2 x0 x1 x6 x7 true (List.getD x1 q1 ((0 : Int), ((0 : Int), ([] : List UInt8))))) (f2 x0 x1 x6 x7 (decide ((w64 (((List.length x0 : Nat) : Int) - (List.getD x1 q1 ((0 : Int), ((0 : Int), ([] : List UInt8)))).1)) < (List.getD x1 q1 ((0 : Int), ((0 : Int), ([] : List UInt8)))).2.1)) (List.getD x1 q1 ((0 : Int), ((0 : Int), ([] : List UInt8))))))))) (f3 x6))
theorem e1 (k n1 : Nat) : u1 k (n1 + 1) = t1 (l2 k n1) (l3 k) := by kernel_rfl
theorem g1 (k n1 : Nat) : l1 k (n1 + 1) = u1 k (n1 + 1) := funext fun _ => funext fun _ => funext fun _ => funext fun _ => funext fun _ => cut_u _ _ _
theorem d1 {x2 y2 : T2} {x3 y3 : T3} (h2 : x2 = y2) (h3 : x3 = y3) : t1 x2 x3 = t1 y2 y3 := by subst h2; subst h3; rfl
def p1 (k : Nat) : Nat → T1
  | 0 => fun _ _ _ _ _ => none
  | n1 + 1 => t1 (p2 k (p1 k n1)) (p3 k)
theorem o1 (k : Nat) : ∀ n1, l1 k n1 = p1 k n1 := by
  intro n1
  induction n1 with
  | zero => kernel_rfl
  | succ n1 ih => exact (Eq.trans (b := u1 k (n1 + 1)) (g1 k n1) (Eq.trans (b := t1 (l2 k n1) (l3 k)) (e1 k n1) (Eq.trans (b := t1 (p2 k (p1 k n1)) (p3 k)) (d1 (o2 k n1 (p1 k n1) ih) (o3 k)) (by kernel_rfl))))
def t0 (f1 : T1) : T0 := fun (x0 : List UInt8) (x1 : List ((Int) × ((Int) × (List UInt8)))) => 
  (f1 x0 x1 (0 : Int) ((List.length x0 : Nat) : Int) (0 : Int))
theorem e0 (k : Nat) : u0 k = t0 (l1 k k) := by kernel_rfl
theorem d0 {x1 y1 : T1} (h1 : x1 = y1) : t0 x1 = t0 y1 := by subst h1; rfl
def p0 (k : Nat) : T0 := t0 (p1 k k)
theorem o0 (k : Nat) : u0 k = p0 k := (Eq.trans (b := t0 (l1 k k)) (e0 k) (Eq.trans (b := t0 (p1 k k)) (d0 (o1 k k)) (by kernel_rfl)))
end ref04_Check
def s_ref04_Check (a : (List UInt8) × ((List ((Int) × ((Int) × (List UInt8)))) × (Unit))) : Option ((Int) × (Unit)) := ref04_Check.p0 (fuel) a.1 a.2.1
noncomputable def F_ref04_Check : FSpec cx.toNm := { ps := [.val .str, .val (.slice 41 (.agg (.pair (.int .i64) (.pair (.int .i64) .str))))], nres := 1, rt := (.int .i64), rm := .ro, f := s_ref04_Check }
theorem w_ref04_Check (a : (List UInt8) × ((List ((Int) × ((Int) × (List UInt8)))) × (Unit))) : runOf (S := cx) ref04_Check.E ref04_Check.h (fuel) Try.f19 F_ref04_Check.ps F_ref04_Check.rt F_ref04_Check.rm a = F_ref04_Check.f a := Eq.trans (b := ref04_Check.u0 (fuel) a.1 a.2.1) (by kernel_rfl) (Eq.trans (b := ref04_Check.p0 (fuel) a.1 a.2.1) (congrFun (congrFun (ref04_Check.o0 (fuel)) a.1) a.2.1) (by kernel_rfl))
theorem ok_ref04_Check : FnOk Try.prog F_ref04_Check 19 := fn_of (hn := ref04_Check.h) (E := ref04_Check.E) cxOk (tysT _) (fs_cons ok_ref01_Edge (fs_cons ok_ref01_Whole fs_nil)) follows Try.func19 (by kernel_rfl) (fun a r h => ⟨fuel, Eq.trans (w_ref04_Check a) h⟩)
namespace ref04_Apply
noncomputable def E : Env cx := { tys := tys, fs := fsOf [] }
abbrev R := Option ((List UInt8) × (Unit))
abbrev C := Exit → ST cx → R
noncomputable def b : Code := bodyC Try.f24
noncomputable def h : Hint := { vs := [0, 1, 4, 5], nil := [], cuts := [(2, ([0, 1, 5], []), ([0], [])), (5, ([0], []), ([0], []))], ret := ([4], []), ords := [] }
noncomputable def K0 : C := fin (S := cx) E Try.f24.results.toList .str .ro [] []
noncomputable def c0 : Code := subC b [1]
noncomputable def K1 (k : Nat) : C := outD h c0 K0
noncomputable def K2 (k : Nat) : C := seqC E h k c0 K0
noncomputable def c1 : Code := subC b [1, 1]
noncomputable def K3 (k : Nat) : C := outD h c1 (K1 k)
noncomputable def K4 (k : Nat) : C := seqC E h k c1 (K1 k)
noncomputable def c2 : Code := subC b [1, 0, 1]
noncomputable def K5 (k : Nat) : C := outD h c2 (K4 k)
noncomputable def K6 (k : Nat) : C := seqC E h k c2 (K4 k)
noncomputable def K7 (k : Nat) : C := blockK 0 (K5 k)
noncomputable def c3 : Code := subC b [1, 0, 1, 0, 0]
noncomputable def K8 (k n1 : Nat) : C := loopD E h k c3 (K7 k) n1
noncomputable def c4 : Code := subC b [1, 0, 1, 0, 0, 1]
noncomputable def K9 (k n1 : Nat) : C := outD h c4 (K8 k n1)
noncomputable def K10 (k n1 : Nat) : C := seqC E h k c4 (K8 k n1)
noncomputable def c5 : Code := subC b [1, 0, 1, 0, 0, 0, 1]
noncomputable def K11 (k n1 : Nat) : C := outD h c5 (K10 k n1)
noncomputable def K12 (k n1 : Nat) : C := seqC E h k c5 (K10 k n1)
noncomputable def c6 : Code := subC b [1, 0, 1, 0, 0, 1, 1]
noncomputable def K13 (k n1 : Nat) : C := outD h c6 (K9 k n1)
noncomputable def K14 (k n1 : Nat) : C := seqC E h k c6 (K9 k n1)
noncomputable def K15 (k n1 : Nat) : C := blockK 1 (K14 k n1)
noncomputable def c7 : Code := subC b [1, 1, 1]
noncomputable def K16 (k : Nat) : C := outD h c7 (K3 k)
noncomputable def K17 (k : Nat) : C := seqC E h k c7 (K3 k)
abbrev T2 := (List UInt8) → R
abbrev T1 := (List UInt8) → (List ((Int) × ((Int) × (List UInt8)))) → Int → R
abbrev T0 := (List UInt8) → (List ((Int) × ((Int) × (List UInt8)))) → R
abbrev s2 : (List UInt8) → ST cx := fun (x0 : List UInt8) => ({ vars := [(0, .v .str .ro x0)], scr := [], mems := [] } : ST cx)
noncomputable def u2 (k : Nat) : T2 := fun (x0 : List UInt8) => uK (run E h k c1) (s2 x0) (K3 k)
noncomputable abbrev l2 (k : Nat) : T2 := fun (x0 : List UInt8) => cutK (run E h k c1) (s2 x0) (K3 k)
abbrev s1 : (List UInt8) → (List ((Int) × ((Int) × (List UInt8)))) → Int → ST cx := fun (x0 : List UInt8) (x1 : List ((Int) × ((Int) × (List UInt8)))) (x5 : Int) => ({ vars := [(0, .v .str .ro x0), (1, .v (.slice 41 (.agg (.pair (.int .i64) (.pair (.int .i64) .str)))) .ro x1), (5, .v (.int .i64) .ro x5)], scr := [], mems := [] } : ST cx)
noncomputable def u1 (k n1 : Nat) : T1 := fun (x0 : List UInt8) (x1 : List ((Int) × ((Int) × (List UInt8)))) (x5 : Int) => uK (loopL E h k c3 (K7 k) n1) (s1 x0 x1 x5) ()
noncomputable abbrev l1 (k n1 : Nat) : T1 := fun (x0 : List UInt8) (x1 : List ((Int) × ((Int) × (List UInt8)))) (x5 : Int) => cutK (loopL E h k c3 (K7 k) n1) (s1 x0 x1 x5) ()
noncomputable def u0 (k : Nat) : T0 := fun (x0 : List UInt8) (x1 : List ((Int) × ((Int) × (List UInt8)))) => runOf (S := cx) E h k Try.f24 [.val .str, .val (.slice 41 (.agg (.pair (.int .i64) (.pair (.int .i64) .str))))] .str .ro (x0, x1, ())
def t2 : T2 := fun (x0 : List UInt8) => 
  (some (x0, ()))
theorem e2 (k : Nat) : u2 k = t2 := by kernel_rfl
theorem g2 (k : Nat) : l2 k = u2 k := funext fun _ => cut_u _ _ _
def p2 (k : Nat) : T2 := t2
theorem o2 (k : Nat) : l2 k = p2 k := (Eq.trans (b := u2 k) (g2 k) (Eq.trans (b := t2) (e2 k) (by kernel_rfl)))
def t1 (f1 : T1) (f2 : T2) : T1 := fun (x0 : List UInt8) (x1 : List ((Int) × ((Int) × (List UInt8)))) (x5 : Int) => 
  (iteB (decide ((0 : Int) ≤ x5)) (withinR x5 (List.length x1) fun q1 => (mustR (decide (0 ≤ (List.getD x1 q1 ((0 : Int), ((0 : Int), ([] : List UInt8)))).1)) (mustR (decide ((List.getD x1 q1 ((0 : Int), ((0 : Int), ([] : List UInt8)))).1 ≤ (((List.length x0) : Nat) : Int))) (withinR x5 (List.length x1) fun q2 => (mustR (decide (List.length (List.drop 0 (List.take (Int.toNat (List.getD x1 q1 ((0 : Int), ((0 : Int), ([] : List UInt8)))).1) x0)) + List.length (List.getD x1 q2 ((0 : Int), ((0 : Int), ([] : List UInt8)))).2.2 ≤ 140737488355328)) (withinR x5 (List.length x1) fun q3 => (withinR x5 (List.length x1) fun q4 => (mustR (decide (0 ≤ (w64 ((List.getD x1 q3 ((0 : Int), ((0 : Int), ([] : List UInt8)))).1 + (List.getD x1 q4 ((0 : Int), ((0 : Int), ([] : List UInt8)))).2.1)))) (mustR (decide ((w64 ((List.getD x1 q3 ((0 : Int), ((0 : Int), ([] : List UInt8)))).1 + (List.getD x1 q4 ((0 : Int), ((0 : Int), ([] : List UInt8)))).2.1)) ≤ (((List.length x0) : Nat) : Int))) (mustR (decide (List.length ((List.drop 0 (List.take (Int.toNat (List.getD x1 q1 ((0 : Int), ((0 : Int), ([] : List UInt8)))).1) x0)) ++ (List.getD x1 q2 ((0 : Int), ((0 : Int), ([] : List UInt8)))).2.2) + List.length (List.drop (Int.toNat (w64 ((List.getD x1 q3 ((0 : Int), ((0 : Int), ([] : List UInt8)))).1 + (List.getD x1 q4 ((0 : Int), ((0 : Int), ([] : List UInt8)))).2.1))) (List.take (List.length x0) x0)) ≤ 140737488355328)) (f1 (((List.drop 0 (List.take (Int.toNat (List.getD x1 q1 ((0 : Int), ((0 : Int), ([] : List UInt8)))).1) x0)) ++ (List.getD x1 q2 ((0 : Int), ((0 : Int), ([] : List UInt8)))).2.2) ++ (List.drop (Int.toNat (w64 ((List.getD x1 q3 ((0 : Int), ((0 : Int), ([] : List UInt8)))).1 + (List.getD x1 q4 ((0 : Int), ((0 : Int), ([] : List UInt8)))).2.1))) (List.take (List.length x0) x0))) x1 (w64 (x5 - (1 : Int)))))))))))))) (f2 x0))
theorem e1 (k n1 : Nat) : u1 k (n1 + 1) = t1 (l1 k n1) (l2 k) := by kernel_rfl
theorem g1 (k n1 : Nat) : l1 k (n1 + 1) = u1 k (n1 + 1) := funext fun _ => funext fun _ => funext fun _ => cut_u _ _ _
theorem d1 {x1 y1 : T1} {x2 y2 : T2} (h1 : x1 = y1) (h2 : x2 = y2) : t1 x1 x2 = t1 y1 y2 := by subst h1; subst h2; rfl
def p1 (k : Nat) : Nat → T1
  | 0 => fun _ _ _ => none
  | n1 + 1 => t1 (p1 k n1) (p2 k)
theorem o1 (k : Nat) : ∀ n1, l1 k n1 = p1 k n1 := by
  intro n1
  induction n1 with
  | zero => kernel_rfl
  | succ n1 ih => exact (Eq.trans (b := u1 k (n1 + 1)) (g1 k n1) (Eq.trans (b := t1 (l1 k n1) (l2 k)) (e1 k n1) (Eq.trans (b := t1 (p1 k n1) (p2 k)) (d1 ih (o2 k)) (by kernel_rfl))))
def t0 (f1 : T1) : T0 := fun (x0 : List UInt8) (x1 : List ((Int) × ((Int) × (List UInt8)))) => 
  (f1 x0 x1 (w64 (((List.length x1 : Nat) : Int) - (1 : Int))))
theorem e0 (k : Nat) : u0 k = t0 (l1 k k) := by kernel_rfl
theorem d0 {x1 y1 : T1} (h1 : x1 = y1) : t0 x1 = t0 y1 := by subst h1; rfl
def p0 (k : Nat) : T0 := t0 (p1 k k)
theorem o0 (k : Nat) : u0 k = p0 k := (Eq.trans (b := t0 (l1 k k)) (e0 k) (Eq.trans (b := t0 (p1 k k)) (d0 (o1 k k)) (by kernel_rfl)))
end ref04_Apply
def s_ref04_Apply (a : (List UInt8) × ((List ((Int) × ((Int) × (List UInt8)))) × (Unit))) : Option ((List UInt8) × (Unit)) := ref04_Apply.p0 (fuel) a.1 a.2.1
noncomputable def F_ref04_Apply : FSpec cx.toNm := { ps := [.val .str, .val (.slice 41 (.agg (.pair (.int .i64) (.pair (.int .i64) .str))))], nres := 1, rt := .str, rm := .ro, f := s_ref04_Apply }
theorem w_ref04_Apply (a : (List UInt8) × ((List ((Int) × ((Int) × (List UInt8)))) × (Unit))) : runOf (S := cx) ref04_Apply.E ref04_Apply.h (fuel) Try.f24 F_ref04_Apply.ps F_ref04_Apply.rt F_ref04_Apply.rm a = F_ref04_Apply.f a := Eq.trans (b := ref04_Apply.u0 (fuel) a.1 a.2.1) (by kernel_rfl) (Eq.trans (b := ref04_Apply.p0 (fuel) a.1 a.2.1) (congrFun (congrFun (ref04_Apply.o0 (fuel)) a.1) a.2.1) (by kernel_rfl))
theorem ok_ref04_Apply : FnOk Try.prog F_ref04_Apply 24 := fn_of (hn := ref04_Apply.h) (E := ref04_Apply.E) cxOk (tysT _) fs_nil follows Try.func24 (by kernel_rfl) (fun a r h => ⟨fuel, Eq.trans (w_ref04_Apply a) h⟩)
namespace ref04_Back
noncomputable def E : Env cx := { tys := tys, fs := fsOf [(24, F_ref04_Apply)] }
abbrev R := Option ((List ((Int) × ((Int) × (List UInt8)))) × (Unit))
abbrev C := Exit → ST cx → R
noncomputable def b : Code := bodyC Try.f27
noncomputable def h : Hint := { vs := [0, 1, 4, 5, 6, 7], nil := [(5, (.own .ro))], cuts := [(3, ([0, 1, 5, 6], []), ([5], [])), (7, ([5], []), ([5], []))], ret := ([4], []), ords := [] }
noncomputable def K0 : C := fin (S := cx) E Try.f27.results.toList (.slice 41 (.agg (.pair (.int .i64) (.pair (.int .i64) .str)))) .ro [] []
noncomputable def c0 : Code := subC b [1]
noncomputable def K1 (k : Nat) : C := outD h c0 K0
noncomputable def K2 (k : Nat) : C := seqC E h k c0 K0
noncomputable def c1 : Code := subC b [1, 1]
noncomputable def K3 (k : Nat) : C := outD h c1 (K1 k)
noncomputable def K4 (k : Nat) : C := seqC E h k c1 (K1 k)
noncomputable def c2 : Code := subC b [1, 1, 1]
noncomputable def K5 (k : Nat) : C := outD h c2 (K3 k)
noncomputable def K6 (k : Nat) : C := seqC E h k c2 (K3 k)
noncomputable def c3 : Code := subC b [1, 1, 0, 1]
noncomputable def K7 (k : Nat) : C := outD h c3 (K6 k)
noncomputable def K8 (k : Nat) : C := seqC E h k c3 (K6 k)
noncomputable def K9 (k : Nat) : C := blockK 0 (K7 k)
noncomputable def c4 : Code := subC b [1, 1, 0, 1, 0, 0]
noncomputable def K10 (k n1 : Nat) : C := loopD E h k c4 (K9 k) n1
noncomputable def c5 : Code := subC b [1, 1, 0, 1, 0, 0, 1]
noncomputable def K11 (k n1 : Nat) : C := outD h c5 (K10 k n1)
noncomputable def K12 (k n1 : Nat) : C := seqC E h k c5 (K10 k n1)
noncomputable def c6 : Code := subC b [1, 1, 0, 1, 0, 0, 0, 1]
noncomputable def K13 (k n1 : Nat) : C := outD h c6 (K12 k n1)
noncomputable def K14 (k n1 : Nat) : C := seqC E h k c6 (K12 k n1)
noncomputable def c7 : Code := subC b [1, 1, 0, 1, 0, 0, 1, 1]
noncomputable def K15 (k n1 : Nat) : C := outD h c7 (K11 k n1)
noncomputable def K16 (k n1 : Nat) : C := seqC E h k c7 (K11 k n1)
noncomputable def K17 (k n1 : Nat) : C := blockK 1 (K16 k n1)
noncomputable def c8 : Code := subC b [1, 1, 0, 1, 0, 0, 1, 0, 0, 1]
noncomputable def K18 (k n1 : Nat) : C := outD h c8 (K17 k n1)
noncomputable def K19 (k n1 : Nat) : C := seqC E h k c8 (K17 k n1)
noncomputable def c9 : Code := subC b [1, 1, 1, 1]
noncomputable def K20 (k : Nat) : C := outD h c9 (K5 k)
noncomputable def K21 (k : Nat) : C := seqC E h k c9 (K5 k)
abbrev T2 := (List ((Int) × ((Int) × (List UInt8)))) → R
abbrev T1 := (List UInt8) → (List ((Int) × ((Int) × (List UInt8)))) → (List ((Int) × ((Int) × (List UInt8)))) → Int → R
abbrev T0 := (List UInt8) → (List ((Int) × ((Int) × (List UInt8)))) → R
abbrev s2 : (List ((Int) × ((Int) × (List UInt8)))) → ST cx := fun (x5 : List ((Int) × ((Int) × (List UInt8)))) => ({ vars := [(5, .v (.slice 41 (.agg (.pair (.int .i64) (.pair (.int .i64) .str)))) (.own .ro) x5)], scr := [], mems := [] } : ST cx)
noncomputable def u2 (k : Nat) : T2 := fun (x5 : List ((Int) × ((Int) × (List UInt8)))) => uK (run E h k c2) (s2 x5) (K5 k)
noncomputable abbrev l2 (k : Nat) : T2 := fun (x5 : List ((Int) × ((Int) × (List UInt8)))) => cutK (run E h k c2) (s2 x5) (K5 k)
abbrev s1 : (List UInt8) → (List ((Int) × ((Int) × (List UInt8)))) → (List ((Int) × ((Int) × (List UInt8)))) → Int → ST cx := fun (x0 : List UInt8) (x1 x5 : List ((Int) × ((Int) × (List UInt8)))) (x6 : Int) => ({ vars := [(0, .v .str .ro x0), (1, .v (.slice 41 (.agg (.pair (.int .i64) (.pair (.int .i64) .str)))) .ro x1), (5, .v (.slice 41 (.agg (.pair (.int .i64) (.pair (.int .i64) .str)))) (.own .ro) x5), (6, .v (.int .i64) .ro x6)], scr := [], mems := [] } : ST cx)
noncomputable def u1 (k n1 : Nat) : T1 := fun (x0 : List UInt8) (x1 x5 : List ((Int) × ((Int) × (List UInt8)))) (x6 : Int) => uK (loopL E h k c4 (K9 k) n1) (s1 x0 x1 x5 x6) ()
noncomputable abbrev l1 (k n1 : Nat) : T1 := fun (x0 : List UInt8) (x1 x5 : List ((Int) × ((Int) × (List UInt8)))) (x6 : Int) => cutK (loopL E h k c4 (K9 k) n1) (s1 x0 x1 x5 x6) ()
noncomputable def u0 (k : Nat) : T0 := fun (x0 : List UInt8) (x1 : List ((Int) × ((Int) × (List UInt8)))) => runOf (S := cx) E h k Try.f27 [.val .str, .val (.slice 41 (.agg (.pair (.int .i64) (.pair (.int .i64) .str))))] (.slice 41 (.agg (.pair (.int .i64) (.pair (.int .i64) .str)))) .ro (x0, x1, ())
def t2 : T2 := fun (x5 : List ((Int) × ((Int) × (List UInt8)))) => 
  (some (x5, ()))
theorem e2 (k : Nat) : u2 k = t2 := by kernel_rfl
theorem g2 (k : Nat) : l2 k = u2 k := funext fun _ => cut_u _ _ _
def p2 (k : Nat) : T2 := t2
theorem o2 (k : Nat) : l2 k = p2 k := (Eq.trans (b := u2 k) (g2 k) (Eq.trans (b := t2) (e2 k) (by kernel_rfl)))
def t1 (f1 : T1) (f2 : T2) : T1 := fun (x0 : List UInt8) (x1 x5 : List ((Int) × ((Int) × (List UInt8)))) (x6 : Int) => 
  (iteB (decide (x6 < ((List.length x1 : Nat) : Int))) (withinR x6 (List.length x1) fun q1 => (mustR (decide (0 ≤ (List.getD x1 q1 ((0 : Int), ((0 : Int), ([] : List UInt8)))).1)) (mustR (decide ((List.getD x1 q1 ((0 : Int), ((0 : Int), ([] : List UInt8)))).1 ≤ (((List.length x0) : Nat) : Int))) (mustR (decide (0 ≤ x6)) (mustR (decide (x6 ≤ (((List.length x1) : Nat) : Int))) (bindR (s_ref04_Apply ((List.drop 0 (List.take (Int.toNat (List.getD x1 q1 ((0 : Int), ((0 : Int), ([] : List UInt8)))).1) x0)), ((List.drop 0 (List.take (Int.toNat x6) x1)), ()))) fun r2 => (withinR x6 (List.length x1) fun q3 => (withinR x6 (List.length x1) fun q4 => (withinR x6 (List.length x1) fun q5 => (withinR x6 (List.length x1) fun q6 => (mustR (decide (0 ≤ (w64 ((List.getD x1 q5 ((0 : Int), ((0 : Int), ([] : List UInt8)))).1 + (List.getD x1 q6 ((0 : Int), ((0 : Int), ([] : List UInt8)))).2.1)))) (mustR (decide ((w64 ((List.getD x1 q5 ((0 : Int), ((0 : Int), ([] : List UInt8)))).1 + (List.getD x1 q6 ((0 : Int), ((0 : Int), ([] : List UInt8)))).2.1)) ≤ (((List.length x0) : Nat) : Int))) (mustR (decide (0 ≤ (List.getD x1 q4 ((0 : Int), ((0 : Int), ([] : List UInt8)))).1)) (mustR (decide ((List.getD x1 q4 ((0 : Int), ((0 : Int), ([] : List UInt8)))).1 ≤ (((Int.toNat (w64 ((List.getD x1 q5 ((0 : Int), ((0 : Int), ([] : List UInt8)))).1 + (List.getD x1 q6 ((0 : Int), ((0 : Int), ([] : List UInt8)))).2.1))) : Nat) : Int))) (mustR (room x5 ([(((List.length r2.1 : Nat) : Int), (((List.length (List.getD x1 q3 ((0 : Int), ((0 : Int), ([] : List UInt8)))).2.2 : Nat) : Int), (List.drop (Int.toNat (List.getD x1 q4 ((0 : Int), ((0 : Int), ([] : List UInt8)))).1) (List.take (Int.toNat (w64 ((List.getD x1 q5 ((0 : Int), ((0 : Int), ([] : List UInt8)))).1 + (List.getD x1 q6 ((0 : Int), ((0 : Int), ([] : List UInt8)))).2.1))) x0))))] : List ((Int) × ((Int) × (List UInt8))))) (f1 x0 x1 (x5 ++ ([(((List.length r2.1 : Nat) : Int), (((List.length (List.getD x1 q3 ((0 : Int), ((0 : Int), ([] : List UInt8)))).2.2 : Nat) : Int), (List.drop (Int.toNat (List.getD x1 q4 ((0 : Int), ((0 : Int), ([] : List UInt8)))).1) (List.take (Int.toNat (w64 ((List.getD x1 q5 ((0 : Int), ((0 : Int), ([] : List UInt8)))).1 + (List.getD x1 q6 ((0 : Int), ((0 : Int), ([] : List UInt8)))).2.1))) x0))))] : List ((Int) × ((Int) × (List UInt8))))) (w64 (x6 + (1 : Int))))))))))))))))))) (f2 x5))
theorem e1 (k n1 : Nat) : u1 k (n1 + 1) = t1 (l1 k n1) (l2 k) := by kernel_rfl
theorem g1 (k n1 : Nat) : l1 k (n1 + 1) = u1 k (n1 + 1) := funext fun _ => funext fun _ => funext fun _ => funext fun _ => cut_u _ _ _
theorem d1 {x1 y1 : T1} {x2 y2 : T2} (h1 : x1 = y1) (h2 : x2 = y2) : t1 x1 x2 = t1 y1 y2 := by subst h1; subst h2; rfl
def p1 (k : Nat) : Nat → T1
  | 0 => fun _ _ _ _ => none
  | n1 + 1 => t1 (p1 k n1) (p2 k)
theorem o1 (k : Nat) : ∀ n1, l1 k n1 = p1 k n1 := by
  intro n1
  induction n1 with
  | zero => kernel_rfl
  | succ n1 ih => exact (Eq.trans (b := u1 k (n1 + 1)) (g1 k n1) (Eq.trans (b := t1 (l1 k n1) (l2 k)) (e1 k n1) (Eq.trans (b := t1 (p1 k n1) (p2 k)) (d1 ih (o2 k)) (by kernel_rfl))))
def t0 (f1 : T1) : T0 := fun (x0 : List UInt8) (x1 : List ((Int) × ((Int) × (List UInt8)))) => 
  (f1 x0 x1 ([] : List ((Int) × ((Int) × (List UInt8)))) (0 : Int))
theorem e0 (k : Nat) : u0 k = t0 (l1 k k) := by kernel_rfl
theorem d0 {x1 y1 : T1} (h1 : x1 = y1) : t0 x1 = t0 y1 := by subst h1; rfl
def p0 (k : Nat) : T0 := t0 (p1 k k)
theorem o0 (k : Nat) : u0 k = p0 k := (Eq.trans (b := t0 (l1 k k)) (e0 k) (Eq.trans (b := t0 (p1 k k)) (d0 (o1 k k)) (by kernel_rfl)))
end ref04_Back
def s_ref04_Back (a : (List UInt8) × ((List ((Int) × ((Int) × (List UInt8)))) × (Unit))) : Option ((List ((Int) × ((Int) × (List UInt8)))) × (Unit)) := ref04_Back.p0 (fuel) a.1 a.2.1
noncomputable def F_ref04_Back : FSpec cx.toNm := { ps := [.val .str, .val (.slice 41 (.agg (.pair (.int .i64) (.pair (.int .i64) .str))))], nres := 1, rt := (.slice 41 (.agg (.pair (.int .i64) (.pair (.int .i64) .str)))), rm := .ro, f := s_ref04_Back }
theorem w_ref04_Back (a : (List UInt8) × ((List ((Int) × ((Int) × (List UInt8)))) × (Unit))) : runOf (S := cx) ref04_Back.E ref04_Back.h (fuel) Try.f27 F_ref04_Back.ps F_ref04_Back.rt F_ref04_Back.rm a = F_ref04_Back.f a := Eq.trans (b := ref04_Back.u0 (fuel) a.1 a.2.1) (by kernel_rfl) (Eq.trans (b := ref04_Back.p0 (fuel) a.1 a.2.1) (congrFun (congrFun (ref04_Back.o0 (fuel)) a.1) a.2.1) (by kernel_rfl))
theorem ok_ref04_Back : FnOk Try.prog F_ref04_Back 27 := fn_of (hn := ref04_Back.h) (E := ref04_Back.E) cxOk (tysT _) (fs_cons ok_ref04_Apply fs_nil) follows Try.func27 (by kernel_rfl) (fun a r h => ⟨fuel, Eq.trans (w_ref04_Back a) h⟩)
end
end Go.Proofs.Ytdifekkamjoepaa.Vm.Rp
