/- What the functions of edits compute, as plain functions; that they do. -/
import Derived.Test.YtdifekkamjoepaaFnsPlace
namespace Go.Proofs.Ytdifekkamjoepaa.Vm.Rp
open Go Go.Proofs.Ytdifekkamjoepaa.Vm Go.Proofs
set_option linter.unusedVariables false
set_option maxRecDepth 100000
noncomputable section
namespace edit_edits_put
noncomputable def E : Env cx := { tys := tys, fs := fsOf [] }
abbrev R := Option ((Unit) × ((((Int) × (Int)) × (List ((Int) × ((Int) × (List UInt8))))) × (Unit)))
abbrev C := Exit → ST cx → R
noncomputable def b : Code := bodyC Try.f108
noncomputable def h : Hint := { vs := [0, 1, 3], nil := [], cuts := [], ret := ([0], [3, 1000000]), ords := [] }
noncomputable def K0 : C := fin (S := cx) E Try.f108.results.toList .unit .ro [1000000] [((.agg (.pair (.agg (.pair (.int .i64) (.int .i64))) (.slice 41 (.agg (.pair (.int .i64) (.pair (.int .i64) .str)))))), (.pr .ro (.own .ro)))]
noncomputable def c0 : Code := subC b [1]
noncomputable def K1 (k : Nat) : C := outD h c0 K0
noncomputable def K2 (k : Nat) : C := seqC E h k c0 K0
noncomputable def c1 : Code := subC b [1, 1]
noncomputable def K3 (k : Nat) : C := outD h c1 (K1 k)
noncomputable def K4 (k : Nat) : C := seqC E h k c1 (K1 k)
noncomputable def c2 : Code := subC b [1, 1, 1]
noncomputable def K5 (k : Nat) : C := outD h c2 (K3 k)
noncomputable def K6 (k : Nat) : C := seqC E h k c2 (K3 k)
abbrev T0 := (((Int) × (Int)) × (List ((Int) × ((Int) × (List UInt8))))) → ((Int) × ((Int) × (List UInt8))) → R
noncomputable def u0 (k : Nat) : T0 := fun (x0 : ((Int) × (Int)) × (List ((Int) × ((Int) × (List UInt8))))) (x1 : (Int) × ((Int) × (List UInt8))) => runOf (S := cx) E h k Try.f108 [.io (.agg (.pair (.agg (.pair (.int .i64) (.int .i64))) (.slice 41 (.agg (.pair (.int .i64) (.pair (.int .i64) .str)))))) (.pr .ro (.own .ro)), .val (.agg (.pair (.int .i64) (.pair (.int .i64) .str)))] .unit .ro (x0, x1, ())
def t0 : T0 := fun (x0 : ((Int) × (Int)) × (List ((Int) × ((Int) × (List UInt8))))) (x1 : (Int) × ((Int) × (List UInt8))) => 
  (mustR (room x0.2 ([x1] : List ((Int) × ((Int) × (List UInt8))))) (some ((), ((((w64 (x0.1.1 + (w64 (((List.length x1.2.2 : Nat) : Int) - x1.2.1)))), (w64 (x1.1 + x1.2.1))), (x0.2 ++ ([x1] : List ((Int) × ((Int) × (List UInt8)))))), ()))))
theorem e0 (k : Nat) : u0 k = t0 := by kernel_rfl
def p0 (k : Nat) : T0 := t0
theorem o0 (k : Nat) : u0 k = p0 k := (Eq.trans (b := t0) (e0 k) (by kernel_rfl))
end edit_edits_put
def s_edit_edits_put (a : (((Int) × (Int)) × (List ((Int) × ((Int) × (List UInt8))))) × (((Int) × ((Int) × (List UInt8))) × (Unit))) : Option ((Unit) × ((((Int) × (Int)) × (List ((Int) × ((Int) × (List UInt8))))) × (Unit))) := edit_edits_put.p0 (fuel) a.1 a.2.1
noncomputable def F_edit_edits_put : FSpec cx.toNm := { ps := [.io (.agg (.pair (.agg (.pair (.int .i64) (.int .i64))) (.slice 41 (.agg (.pair (.int .i64) (.pair (.int .i64) .str)))))) (.pr .ro (.own .ro)), .val (.agg (.pair (.int .i64) (.pair (.int .i64) .str)))], nres := 0, rt := .unit, rm := .ro, f := s_edit_edits_put }
theorem w_edit_edits_put (a : (((Int) × (Int)) × (List ((Int) × ((Int) × (List UInt8))))) × (((Int) × ((Int) × (List UInt8))) × (Unit))) : runOf (S := cx) edit_edits_put.E edit_edits_put.h (fuel) Try.f108 F_edit_edits_put.ps F_edit_edits_put.rt F_edit_edits_put.rm a = F_edit_edits_put.f a := Eq.trans (b := edit_edits_put.u0 (fuel) a.1 a.2.1) (by kernel_rfl) (Eq.trans (b := edit_edits_put.p0 (fuel) a.1 a.2.1) (congrFun (congrFun (edit_edits_put.o0 (fuel)) a.1) a.2.1) (by kernel_rfl))
theorem ok_edit_edits_put : FnOk Try.prog F_edit_edits_put 108 := fn_of (hn := edit_edits_put.h) (E := edit_edits_put.E) cxOk (tysT _) fs_nil follows Try.func108 (by kernel_rfl) (fun a r h => ⟨fuel, Eq.trans (w_edit_edits_put a) h⟩)
namespace edit_moved
noncomputable def E : Env cx := { tys := tys, fs := fsOf [] }
abbrev R := Option ((Int) × (Unit))
abbrev C := Exit → ST cx → R
noncomputable def b : Code := bodyC Try.f109
noncomputable def h : Hint := { vs := [0, 1, 2, 3, 6, 7, 13, 33], nil := [], cuts := [(4, ([1, 2, 3, 13], [3]), ([3], [3])), (7, ([3, 33], [3]), ([3], [3])), (8, ([3], [3]), ([3], [3]))], ret := ([6], [3]), ords := [] }
noncomputable def K0 : C := fin (S := cx) E Try.f109.results.toList (.int .i64) .ro [] []
noncomputable def c0 : Code := subC b [1]
noncomputable def K1 (k : Nat) : C := outD h c0 K0
noncomputable def K2 (k : Nat) : C := seqC E h k c0 K0
noncomputable def c1 : Code := subC b [1, 1]
noncomputable def K3 (k : Nat) : C := outD h c1 (K1 k)
noncomputable def K4 (k : Nat) : C := seqC E h k c1 (K1 k)
noncomputable def c2 : Code := subC b [1, 1, 1]
noncomputable def K5 (k : Nat) : C := outD h c2 (K3 k)
noncomputable def K6 (k : Nat) : C := seqC E h k c2 (K3 k)
noncomputable def K7 (k : Nat) : C := blockK 0 (K6 k)
noncomputable def c3 : Code := subC b [1, 1, 0, 0, 1]
noncomputable def K8 (k : Nat) : C := outD h c3 (K7 k)
noncomputable def K9 (k : Nat) : C := seqC E h k c3 (K7 k)
noncomputable def c4 : Code := subC b [1, 1, 0, 0, 0, 1]
noncomputable def K10 (k : Nat) : C := outD h c4 (K9 k)
noncomputable def K11 (k : Nat) : C := seqC E h k c4 (K9 k)
noncomputable def c5 : Code := subC b [1, 1, 0, 0, 1, 0, 1]
noncomputable def K12 (k : Nat) : C := outD h c5 (K8 k)
noncomputable def K13 (k : Nat) : C := seqC E h k c5 (K8 k)
noncomputable def c6 : Code := subC b [1, 1, 0, 0, 1, 1, 1]
noncomputable def K14 (k : Nat) : C := outD h c6 (K8 k)
noncomputable def K15 (k : Nat) : C := seqC E h k c6 (K8 k)
noncomputable def c7 : Code := subC b [1, 1, 0, 0, 1, 1, 0, 1]
noncomputable def K16 (k : Nat) : C := outD h c7 (K15 k)
noncomputable def K17 (k : Nat) : C := seqC E h k c7 (K15 k)
noncomputable def c8 : Code := subC b [1, 1, 0, 0, 1, 1, 1, 0, 1]
noncomputable def K18 (k : Nat) : C := outD h c8 (K14 k)
noncomputable def K19 (k : Nat) : C := seqC E h k c8 (K14 k)
noncomputable def c9 : Code := subC b [1, 1, 1, 1]
noncomputable def K20 (k : Nat) : C := outD h c9 (K5 k)
noncomputable def K21 (k : Nat) : C := seqC E h k c9 (K5 k)
abbrev T3 := ((Int) × ((Int) × (List UInt8))) → R
abbrev T2 := Bool → ((Int) × ((Int) × (List UInt8))) → R
abbrev T1 := Int → Bool → Bool → ((Int) × ((Int) × (List UInt8))) → R
abbrev T0 := ((Int) × ((Int) × (List UInt8))) → Int → Bool → R
abbrev s3 : ((Int) × ((Int) × (List UInt8))) → ST cx := fun (m3 : (Int) × ((Int) × (List UInt8))) => ({ vars := [(3, .addr (.mem 3) [])], scr := [], mems := [(3, ⟨(.agg (.pair (.int .i64) (.pair (.int .i64) .str))), .ro, m3⟩)] } : ST cx)
noncomputable def u3 (k : Nat) : T3 := fun (m3 : (Int) × ((Int) × (List UInt8))) => uK (run E h k c2) (s3 m3) (K5 k)
noncomputable abbrev l3 (k : Nat) : T3 := fun (m3 : (Int) × ((Int) × (List UInt8))) => cutK (run E h k c2) (s3 m3) (K5 k)
abbrev s2 : Bool → ((Int) × ((Int) × (List UInt8))) → ST cx := fun (x33 : Bool) (m3 : (Int) × ((Int) × (List UInt8))) => ({ vars := [(3, .addr (.mem 3) []), (33, .v .bool .ro x33)], scr := [], mems := [(3, ⟨(.agg (.pair (.int .i64) (.pair (.int .i64) .str))), .ro, m3⟩)] } : ST cx)
noncomputable def u2 (k : Nat) : T2 := fun (x33 : Bool) (m3 : (Int) × ((Int) × (List UInt8))) => uK (run E h k c6) (s2 x33 m3) (K14 k)
noncomputable abbrev l2 (k : Nat) : T2 := fun (x33 : Bool) (m3 : (Int) × ((Int) × (List UInt8))) => cutK (run E h k c6) (s2 x33 m3) (K14 k)
abbrev s1 : Int → Bool → Bool → ((Int) × ((Int) × (List UInt8))) → ST cx := fun (x1 : Int) (x2 x13 : Bool) (m3 : (Int) × ((Int) × (List UInt8))) => ({ vars := [(1, .v (.int .i64) .ro x1), (2, .v .bool .ro x2), (3, .addr (.mem 3) []), (13, .v .bool .ro x13)], scr := [], mems := [(3, ⟨(.agg (.pair (.int .i64) (.pair (.int .i64) .str))), .ro, m3⟩)] } : ST cx)
noncomputable def u1 (k : Nat) : T1 := fun (x1 : Int) (x2 x13 : Bool) (m3 : (Int) × ((Int) × (List UInt8))) => uK (run E h k c3) (s1 x1 x2 x13 m3) (K8 k)
noncomputable abbrev l1 (k : Nat) : T1 := fun (x1 : Int) (x2 x13 : Bool) (m3 : (Int) × ((Int) × (List UInt8))) => cutK (run E h k c3) (s1 x1 x2 x13 m3) (K8 k)
noncomputable def u0 (k : Nat) : T0 := fun (x0 : (Int) × ((Int) × (List UInt8))) (x1 : Int) (x2 : Bool) => runOf (S := cx) E h k Try.f109 [.val (.agg (.pair (.int .i64) (.pair (.int .i64) .str))), .val (.int .i64), .val .bool] (.int .i64) .ro (x0, x1, x2, ())
def t3 : T3 := fun (m3 : (Int) × ((Int) × (List UInt8))) => 
  (some ((w64 (m3.1 + ((List.length m3.2.2 : Nat) : Int))), ()))
theorem e3 (k : Nat) : u3 k = t3 := by kernel_rfl
theorem g3 (k : Nat) : l3 k = u3 k := funext fun _ => cut_u _ _ _
def p3 (k : Nat) : T3 := t3
theorem o3 (k : Nat) : l3 k = p3 k := (Eq.trans (b := u3 k) (g3 k) (Eq.trans (b := t3) (e3 k) (by kernel_rfl)))
def t2 (f3 : T3) : T2 := fun (x33 : Bool) (m3 : (Int) × ((Int) × (List UInt8))) => 
  (iteB x33 (some (m3.1, ())) (f3 m3))
theorem e2 (k : Nat) : u2 k = t2 (l3 k) := by kernel_rfl
theorem g2 (k : Nat) : l2 k = u2 k := funext fun _ => funext fun _ => cut_u _ _ _
theorem d2 {x3 y3 : T3} (h3 : x3 = y3) : t2 x3 = t2 y3 := by subst h3; rfl
def p2 (k : Nat) : T2 := t2 (p3 k)
theorem o2 (k : Nat) : l2 k = p2 k := (Eq.trans (b := u2 k) (g2 k) (Eq.trans (b := t2 (l3 k)) (e2 k) (Eq.trans (b := t2 (p3 k)) (d2 (o3 k)) (by kernel_rfl))))
def t1 (f2 : T2) : T1 := fun (x1 : Int) (x2 x13 : Bool) (m3 : (Int) × ((Int) × (List UInt8))) => 
  (iteB x13 (some ((w64 ((w64 (x1 + ((List.length m3.2.2 : Nat) : Int))) - m3.2.1)), ())) (iteB (decide (x1 = m3.1)) (iteB (decide ((0 : Int) < m3.2.1)) (f2 true m3) (iteB (notB x2) (f2 (notB x2) m3) (iteB (decide (m3.1 < x1)) (f2 (notB x2) m3) (f2 false m3)))) (iteB (decide (m3.1 < x1)) (f2 (notB x2) m3) (f2 false m3))))
theorem e1 (k : Nat) : u1 k = t1 (l2 k) := by kernel_rfl
theorem g1 (k : Nat) : l1 k = u1 k := funext fun _ => funext fun _ => funext fun _ => funext fun _ => cut_u _ _ _
theorem d1 {x2 y2 : T2} (h2 : x2 = y2) : t1 x2 = t1 y2 := by subst h2; rfl
def p1 (k : Nat) : T1 := t1 (p2 k)
theorem o1 (k : Nat) : l1 k = p1 k := (Eq.trans (b := u1 k) (g1 k) (Eq.trans (b := t1 (l2 k)) (e1 k) (Eq.trans (b := t1 (p2 k)) (d1 (o2 k)) (by kernel_rfl))))
def t0 (f1 : T1) : T0 := fun (x0 : (Int) × ((Int) × (List UInt8))) (x1 : Int) (x2 : Bool) => 
  (iteB (decide ((w64 (x0.1 + x0.2.1)) < x1)) (f1 x1 x2 (decide ((w64 (x0.1 + x0.2.1)) < x1)) x0) (iteB (decide (x1 = (w64 (x0.1 + x0.2.1)))) (f1 x1 x2 (decide ((0 : Int) < x0.2.1)) x0) (f1 x1 x2 false x0)))
theorem e0 (k : Nat) : u0 k = t0 (l1 k) := by kernel_rfl
theorem d0 {x1 y1 : T1} (h1 : x1 = y1) : t0 x1 = t0 y1 := by subst h1; rfl
def p0 (k : Nat) : T0 := t0 (p1 k)
theorem o0 (k : Nat) : u0 k = p0 k := (Eq.trans (b := t0 (l1 k)) (e0 k) (Eq.trans (b := t0 (p1 k)) (d0 (o1 k)) (by kernel_rfl)))
end edit_moved
def s_edit_moved (a : ((Int) × ((Int) × (List UInt8))) × ((Int) × ((Bool) × (Unit)))) : Option ((Int) × (Unit)) := edit_moved.p0 (fuel) a.1 a.2.1 a.2.2.1
noncomputable def F_edit_moved : FSpec cx.toNm := { ps := [.val (.agg (.pair (.int .i64) (.pair (.int .i64) .str))), .val (.int .i64), .val .bool], nres := 1, rt := (.int .i64), rm := .ro, f := s_edit_moved }
theorem w_edit_moved (a : ((Int) × ((Int) × (List UInt8))) × ((Int) × ((Bool) × (Unit)))) : runOf (S := cx) edit_moved.E edit_moved.h (fuel) Try.f109 F_edit_moved.ps F_edit_moved.rt F_edit_moved.rm a = F_edit_moved.f a := Eq.trans (b := edit_moved.u0 (fuel) a.1 a.2.1 a.2.2.1) (by kernel_rfl) (Eq.trans (b := edit_moved.p0 (fuel) a.1 a.2.1 a.2.2.1) (congrFun (congrFun (congrFun (edit_moved.o0 (fuel)) a.1) a.2.1) a.2.2.1) (by kernel_rfl))
theorem ok_edit_moved : FnOk Try.prog F_edit_moved 109 := fn_of (hn := edit_moved.h) (E := edit_moved.E) cxOk (tysT _) fs_nil follows Try.func109 (by kernel_rfl) (fun a r h => ⟨fuel, Eq.trans (w_edit_moved a) h⟩)
namespace edit_Move
noncomputable def E : Env cx := { tys := tys, fs := fsOf [(108, F_edit_edits_put), (109, F_edit_moved)] }
abbrev R := Option ((Int) × (Unit))
abbrev C := Exit → ST cx → R
noncomputable def b : Code := bodyC Try.f68
noncomputable def h : Hint := { vs := [0, 1, 2, 6, 7, 8, 10, 14, 15, 16], nil := [(11, (.pr .ro (.own .ro)))], cuts := [(4, ([1, 2, 7, 8, 14, 15, 16], [12]), ([8], [])), (10, ([8], []), ([8], []))], ret := ([6], [10, 12]), ords := [] }
noncomputable def K0 : C := fin (S := cx) E Try.f68.results.toList (.int .i64) .ro [] []
noncomputable def c0 : Code := subC b [1]
noncomputable def K1 (k : Nat) : C := outD h c0 K0
noncomputable def K2 (k : Nat) : C := seqC E h k c0 K0
noncomputable def c1 : Code := subC b [1, 1]
noncomputable def K3 (k : Nat) : C := outD h c1 (K1 k)
noncomputable def K4 (k : Nat) : C := seqC E h k c1 (K1 k)
noncomputable def c2 : Code := subC b [1, 1, 1]
noncomputable def K5 (k : Nat) : C := outD h c2 (K3 k)
noncomputable def K6 (k : Nat) : C := seqC E h k c2 (K3 k)
noncomputable def c3 : Code := subC b [1, 1, 1, 1]
noncomputable def K7 (k : Nat) : C := outD h c3 (K5 k)
noncomputable def K8 (k : Nat) : C := seqC E h k c3 (K5 k)
noncomputable def c4 : Code := subC b [1, 1, 1, 0, 1]
noncomputable def K9 (k : Nat) : C := outD h c4 (K8 k)
noncomputable def K10 (k : Nat) : C := seqC E h k c4 (K8 k)
noncomputable def K11 (k : Nat) : C := blockK 0 (K9 k)
noncomputable def c5 : Code := subC b [1, 1, 1, 0, 1, 0, 0]
noncomputable def K12 (k n1 : Nat) : C := loopD E h k c5 (K11 k) n1
noncomputable def c6 : Code := subC b [1, 1, 1, 0, 1, 0, 0, 1]
noncomputable def K13 (k n1 : Nat) : C := outD h c6 (K12 k n1)
noncomputable def K14 (k n1 : Nat) : C := seqC E h k c6 (K12 k n1)
noncomputable def c7 : Code := subC b [1, 1, 1, 0, 1, 0, 0, 1, 1]
noncomputable def K15 (k n1 : Nat) : C := outD h c7 (K13 k n1)
noncomputable def K16 (k n1 : Nat) : C := seqC E h k c7 (K13 k n1)
noncomputable def c8 : Code := subC b [1, 1, 1, 0, 1, 0, 0, 1, 1, 1]
noncomputable def K17 (k n1 : Nat) : C := outD h c8 (K15 k n1)
noncomputable def K18 (k n1 : Nat) : C := seqC E h k c8 (K15 k n1)
noncomputable def K19 (k n1 : Nat) : C := blockK 1 (K18 k n1)
noncomputable def c9 : Code := subC b [1, 1, 1, 0, 1, 0, 0, 1, 1, 0, 0, 1]
noncomputable def K20 (k n1 : Nat) : C := outD h c9 (K19 k n1)
noncomputable def K21 (k n1 : Nat) : C := seqC E h k c9 (K19 k n1)
noncomputable def c10 : Code := subC b [1, 1, 1, 0, 1, 0, 0, 1, 1, 0, 0, 1, 1]
noncomputable def K22 (k n1 : Nat) : C := outD h c10 (K20 k n1)
noncomputable def K23 (k n1 : Nat) : C := seqC E h k c10 (K20 k n1)
noncomputable def c11 : Code := subC b [1, 1, 1, 0, 1, 0, 0, 1, 1, 0, 0, 1, 0, 1]
noncomputable def K24 (k n1 : Nat) : C := outD h c11 (K23 k n1)
noncomputable def K25 (k n1 : Nat) : C := seqC E h k c11 (K23 k n1)
noncomputable def c12 : Code := subC b [1, 1, 1, 0, 1, 0, 0, 1, 1, 0, 0, 1, 1, 1]
noncomputable def K26 (k n1 : Nat) : C := outD h c12 (K22 k n1)
noncomputable def K27 (k n1 : Nat) : C := seqC E h k c12 (K22 k n1)
noncomputable def c13 : Code := subC b [1, 1, 1, 1, 1]
noncomputable def K28 (k : Nat) : C := outD h c13 (K7 k)
noncomputable def K29 (k : Nat) : C := seqC E h k c13 (K7 k)
abbrev T2 := Int → R
abbrev T1 := Int → Bool → Int → (List ((Int) × ((Int) × (List UInt8)))) → Int → Int → (((Int) × (Int)) × (List ((Int) × ((Int) × (List UInt8))))) → R
abbrev T0 := (List ((Int) × ((Int) × (List UInt8)))) → Int → Bool → R
abbrev s2 : Int → ST cx := fun (x8 : Int) => ({ vars := [(8, .v (.int .i64) .ro x8)], scr := [], mems := [] } : ST cx)
noncomputable def u2 (k : Nat) : T2 := fun (x8 : Int) => uK (run E h k c3) (s2 x8) (K7 k)
noncomputable abbrev l2 (k : Nat) : T2 := fun (x8 : Int) => cutK (run E h k c3) (s2 x8) (K7 k)
abbrev s1 : Int → Bool → Int → (List ((Int) × ((Int) × (List UInt8)))) → Int → Int → (((Int) × (Int)) × (List ((Int) × ((Int) × (List UInt8))))) → ST cx := fun (x1 : Int) (x2 : Bool) (x8 : Int) (x14 : List ((Int) × ((Int) × (List UInt8)))) (x15 x16 : Int) (m12 : ((Int) × (Int)) × (List ((Int) × ((Int) × (List UInt8))))) => ({ vars := [(1, .v (.int .i64) .ro x1), (2, .v .bool .ro x2), (7, .addr (.mem 12) []), (8, .v (.int .i64) .ro x8), (14, .v (.slice 41 (.agg (.pair (.int .i64) (.pair (.int .i64) .str)))) .ro x14), (15, .v (.int .i64) .ro x15), (16, .v (.int .i64) .ro x16)], scr := [], mems := [(12, ⟨(.agg (.pair (.agg (.pair (.int .i64) (.int .i64))) (.slice 41 (.agg (.pair (.int .i64) (.pair (.int .i64) .str)))))), (.pr .ro (.own .ro)), m12⟩)] } : ST cx)
noncomputable def u1 (k n1 : Nat) : T1 := fun (x1 : Int) (x2 : Bool) (x8 : Int) (x14 : List ((Int) × ((Int) × (List UInt8)))) (x15 x16 : Int) (m12 : ((Int) × (Int)) × (List ((Int) × ((Int) × (List UInt8))))) => uK (loopL E h k c5 (K11 k) n1) (s1 x1 x2 x8 x14 x15 x16 m12) ()
noncomputable abbrev l1 (k n1 : Nat) : T1 := fun (x1 : Int) (x2 : Bool) (x8 : Int) (x14 : List ((Int) × ((Int) × (List UInt8)))) (x15 x16 : Int) (m12 : ((Int) × (Int)) × (List ((Int) × ((Int) × (List UInt8))))) => cutK (loopL E h k c5 (K11 k) n1) (s1 x1 x2 x8 x14 x15 x16 m12) ()
noncomputable def u0 (k : Nat) : T0 := fun (x0 : List ((Int) × ((Int) × (List UInt8)))) (x1 : Int) (x2 : Bool) => runOf (S := cx) E h k Try.f68 [.val (.slice 41 (.agg (.pair (.int .i64) (.pair (.int .i64) .str)))), .val (.int .i64), .val .bool] (.int .i64) .ro (x0, x1, x2, ())
def t2 : T2 := fun (x8 : Int) => 
  (some (x8, ()))
theorem e2 (k : Nat) : u2 k = t2 := by kernel_rfl
theorem g2 (k : Nat) : l2 k = u2 k := funext fun _ => cut_u _ _ _
def p2 (k : Nat) : T2 := t2
theorem o2 (k : Nat) : l2 k = p2 k := (Eq.trans (b := u2 k) (g2 k) (Eq.trans (b := t2) (e2 k) (by kernel_rfl)))
def t1 (f2 : T2) (f1 : T1) : T1 := fun (x1 : Int) (x2 : Bool) (x8 : Int) (x14 : List ((Int) × ((Int) × (List UInt8)))) (x15 x16 : Int) (m12 : ((Int) × (Int)) × (List ((Int) × ((Int) × (List UInt8))))) => 
  (iteB (decide (x16 < x15)) (withinR x16 (List.length x14) fun q1 => (iteB (decide (x1 < (List.getD x14 q1 ((0 : Int), ((0 : Int), ([] : List UInt8)))).1)) (f2 x8) (bindR (s_edit_moved ((List.getD x14 q1 ((0 : Int), ((0 : Int), ([] : List UInt8)))), (x1, (x2, ())))) fun r2 => (bindR (s_edit_edits_put (m12, ((List.getD x14 q1 ((0 : Int), ((0 : Int), ([] : List UInt8)))), ()))) fun r3 => (f1 x1 x2 (w64 (m12.1.1 + r2.1)) x14 x15 (w64 (x16 + (1 : Int))) r3.2.1))))) (f2 x8))
theorem e1 (k n1 : Nat) : u1 k (n1 + 1) = t1 (l2 k) (l1 k n1) := by kernel_rfl
theorem g1 (k n1 : Nat) : l1 k (n1 + 1) = u1 k (n1 + 1) := funext fun _ => funext fun _ => funext fun _ => funext fun _ => funext fun _ => funext fun _ => funext fun _ => cut_u _ _ _
theorem d1 {x2 y2 : T2} {x1 y1 : T1} (h2 : x2 = y2) (h1 : x1 = y1) : t1 x2 x1 = t1 y2 y1 := by subst h2; subst h1; rfl
def p1 (k : Nat) : Nat → T1
  | 0 => fun _ _ _ _ _ _ _ => none
  | n1 + 1 => t1 (p2 k) (p1 k n1)
theorem o1 (k : Nat) : ∀ n1, l1 k n1 = p1 k n1 := by
  intro n1
  induction n1 with
  | zero => kernel_rfl
  | succ n1 ih => exact (Eq.trans (b := u1 k (n1 + 1)) (g1 k n1) (Eq.trans (b := t1 (l2 k) (l1 k n1)) (e1 k n1) (Eq.trans (b := t1 (p2 k) (p1 k n1)) (d1 (o2 k) ih) (by kernel_rfl))))
def t0 (f1 : T1) : T0 := fun (x0 : List ((Int) × ((Int) × (List UInt8)))) (x1 : Int) (x2 : Bool) => 
  (f1 x1 x2 x1 x0 ((List.length x0 : Nat) : Int) (0 : Int) (((0 : Int), (0 : Int)), ([] : List ((Int) × ((Int) × (List UInt8))))))
theorem e0 (k : Nat) : u0 k = t0 (l1 k k) := by kernel_rfl
theorem d0 {x1 y1 : T1} (h1 : x1 = y1) : t0 x1 = t0 y1 := by subst h1; rfl
def p0 (k : Nat) : T0 := t0 (p1 k k)
theorem o0 (k : Nat) : u0 k = p0 k := (Eq.trans (b := t0 (l1 k k)) (e0 k) (Eq.trans (b := t0 (p1 k k)) (d0 (o1 k k)) (by kernel_rfl)))
end edit_Move
def s_edit_Move (a : (List ((Int) × ((Int) × (List UInt8)))) × ((Int) × ((Bool) × (Unit)))) : Option ((Int) × (Unit)) := edit_Move.p0 (fuel) a.1 a.2.1 a.2.2.1
noncomputable def F_edit_Move : FSpec cx.toNm := { ps := [.val (.slice 41 (.agg (.pair (.int .i64) (.pair (.int .i64) .str)))), .val (.int .i64), .val .bool], nres := 1, rt := (.int .i64), rm := .ro, f := s_edit_Move }
theorem w_edit_Move (a : (List ((Int) × ((Int) × (List UInt8)))) × ((Int) × ((Bool) × (Unit)))) : runOf (S := cx) edit_Move.E edit_Move.h (fuel) Try.f68 F_edit_Move.ps F_edit_Move.rt F_edit_Move.rm a = F_edit_Move.f a := Eq.trans (b := edit_Move.u0 (fuel) a.1 a.2.1 a.2.2.1) (by kernel_rfl) (Eq.trans (b := edit_Move.p0 (fuel) a.1 a.2.1 a.2.2.1) (congrFun (congrFun (congrFun (edit_Move.o0 (fuel)) a.1) a.2.1) a.2.2.1) (by kernel_rfl))
theorem ok_edit_Move : FnOk Try.prog F_edit_Move 68 := fn_of (hn := edit_Move.h) (E := edit_Move.E) cxOk (tysT _) (fs_cons ok_edit_edits_put (fs_cons ok_edit_moved fs_nil)) follows Try.func68 (by kernel_rfl) (fun a r h => ⟨fuel, Eq.trans (w_edit_Move a) h⟩)
end
end Go.Proofs.Ytdifekkamjoepaa.Vm.Rp
