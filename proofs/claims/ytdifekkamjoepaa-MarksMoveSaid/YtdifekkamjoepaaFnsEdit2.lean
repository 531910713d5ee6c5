/- What the laws of edits compute, as plain functions; that they do. -/
import Derived.Test.YtdifekkamjoepaaFnsEdit
namespace Go.Proofs.Ytdifekkamjoepaa.Vm.Rp
open Go Go.Proofs.Ytdifekkamjoepaa.Vm Go.Proofs
set_option linter.unusedVariables false
set_option maxRecDepth 100000
noncomputable section
namespace ref04_Move
noncomputable def E : Env cx := { tys := tys, fs := fsOf [] }
abbrev R := Option ((Int) × (Unit))
abbrev C := Exit → ST cx → R
noncomputable def b : Code := bodyC Try.f69
noncomputable def h : Hint := { vs := [0, 1, 2, 6, 7, 8, 9, 10, 11, 12], nil := [], cuts := [(4, ([0, 1, 2, 7, 8, 9], []), ([0, 1, 2, 7, 8], [])), (5, ([0, 1, 2, 7, 8, 9], []), ([0, 1, 2, 7, 8, 9], [])), (8, ([0, 1, 2, 7, 8], []), ([0, 1, 2, 7, 8], [])), (11, ([0, 1, 2, 7, 8, 10], []), ([0, 1, 2, 7, 8], [])), (14, ([0, 1, 2, 7, 8], []), ([0, 1, 2, 7, 8], [])), (25, ([8, 11, 100], [11]), ([8, 11], [11])), (26, ([8, 11], [11]), ([8, 11], [11]))], ret := ([6], [11]), ords := [] }
noncomputable def K0 : C := fin (S := cx) E Try.f69.results.toList (.int .i64) .ro [] []
noncomputable def c0 : Code := subC b [1]
noncomputable def K1 (k : Nat) : C := outD h c0 K0
noncomputable def K2 (k : Nat) : C := seqC E h k c0 K0
noncomputable def c1 : Code := subC b [1, 1]
noncomputable def K3 (k : Nat) : C := outD h c1 (K1 k)
noncomputable def K4 (k : Nat) : C := seqC E h k c1 (K1 k)
noncomputable def c2 : Code := subC b [1, 1, 1]
noncomputable def K5 (k : Nat) : C := outD h c2 (K3 k)
noncomputable def K6 (k : Nat) : C := seqC E h k c2 (K3 k)
noncomputable def c3 : Code := subC b [1, 1, 1, 1]
noncomputable def K7 (k : Nat) : C := outD h c3 (K5 k)
noncomputable def K8 (k : Nat) : C := seqC E h k c3 (K5 k)
noncomputable def c4 : Code := subC b [1, 1, 1, 0, 1]
noncomputable def K9 (k : Nat) : C := outD h c4 (K8 k)
noncomputable def K10 (k : Nat) : C := seqC E h k c4 (K8 k)
noncomputable def K11 (k : Nat) : C := blockK 0 (K9 k)
noncomputable def c5 : Code := subC b [1, 1, 1, 0, 1, 0, 0]
noncomputable def K12 (k n1 : Nat) : C := loopD E h k c5 (K11 k) n1
noncomputable def c6 : Code := subC b [1, 1, 1, 0, 1, 0, 0, 1]
noncomputable def K13 (k n1 : Nat) : C := outD h c6 (K12 k n1)
noncomputable def K14 (k n1 : Nat) : C := seqC E h k c6 (K12 k n1)
noncomputable def c7 : Code := subC b [1, 1, 1, 0, 1, 0, 0, 0, 1]
noncomputable def K15 (k n1 : Nat) : C := outD h c7 (K14 k n1)
noncomputable def K16 (k n1 : Nat) : C := seqC E h k c7 (K14 k n1)
noncomputable def c8 : Code := subC b [1, 1, 1, 0, 1, 0, 0, 1, 1]
noncomputable def K17 (k n1 : Nat) : C := outD h c8 (K13 k n1)
noncomputable def K18 (k n1 : Nat) : C := seqC E h k c8 (K13 k n1)
noncomputable def K19 (k n1 : Nat) : C := blockK 1 (K18 k n1)
noncomputable def c9 : Code := subC b [1, 1, 1, 0, 1, 0, 0, 1, 0, 0, 1]
noncomputable def K20 (k n1 : Nat) : C := outD h c9 (K19 k n1)
noncomputable def K21 (k n1 : Nat) : C := seqC E h k c9 (K19 k n1)
noncomputable def c10 : Code := subC b [1, 1, 1, 1, 1]
noncomputable def K22 (k : Nat) : C := outD h c10 (K7 k)
noncomputable def K23 (k : Nat) : C := seqC E h k c10 (K7 k)
noncomputable def c11 : Code := subC b [1, 1, 1, 1, 0, 1]
noncomputable def K24 (k : Nat) : C := outD h c11 (K23 k)
noncomputable def K25 (k : Nat) : C := seqC E h k c11 (K23 k)
noncomputable def c12 : Code := subC b [1, 1, 1, 1, 0, 1, 0, 1]
noncomputable def K26 (k : Nat) : C := outD h c12 (K24 k)
noncomputable def K27 (k : Nat) : C := seqC E h k c12 (K24 k)
noncomputable def c13 : Code := subC b [1, 1, 1, 1, 1, 1]
noncomputable def K28 (k : Nat) : C := outD h c13 (K22 k)
noncomputable def K29 (k : Nat) : C := seqC E h k c13 (K22 k)
noncomputable def c14 : Code := subC b [1, 1, 1, 1, 1, 0, 1]
noncomputable def K30 (k : Nat) : C := outD h c14 (K29 k)
noncomputable def K31 (k : Nat) : C := seqC E h k c14 (K29 k)
noncomputable def K32 (k : Nat) : C := blockK 2 (K30 k)
noncomputable def c15 : Code := subC b [1, 1, 1, 1, 1, 0, 1, 0, 0]
noncomputable def K33 (k n4 : Nat) : C := loopD E h k c15 (K32 k) n4
noncomputable def c16 : Code := subC b [1, 1, 1, 1, 1, 0, 1, 0, 0, 1]
noncomputable def K34 (k n4 : Nat) : C := outD h c16 (K33 k n4)
noncomputable def K35 (k n4 : Nat) : C := seqC E h k c16 (K33 k n4)
noncomputable def c17 : Code := subC b [1, 1, 1, 1, 1, 0, 1, 0, 0, 0, 1]
noncomputable def K36 (k n4 : Nat) : C := outD h c17 (K35 k n4)
noncomputable def K37 (k n4 : Nat) : C := seqC E h k c17 (K35 k n4)
noncomputable def c18 : Code := subC b [1, 1, 1, 1, 1, 0, 1, 0, 0, 1, 1]
noncomputable def K38 (k n4 : Nat) : C := outD h c18 (K34 k n4)
noncomputable def K39 (k n4 : Nat) : C := seqC E h k c18 (K34 k n4)
noncomputable def K40 (k n4 : Nat) : C := blockK 3 (K39 k n4)
noncomputable def c19 : Code := subC b [1, 1, 1, 1, 1, 1, 1]
noncomputable def K41 (k : Nat) : C := outD h c19 (K28 k)
noncomputable def K42 (k : Nat) : C := seqC E h k c19 (K28 k)
noncomputable def c20 : Code := subC b [1, 1, 1, 1, 1, 1, 1, 1]
noncomputable def K43 (k : Nat) : C := outD h c20 (K41 k)
noncomputable def K44 (k : Nat) : C := seqC E h k c20 (K41 k)
noncomputable def c21 : Code := subC b [1, 1, 1, 1, 1, 1, 1, 1, 1]
noncomputable def K45 (k : Nat) : C := outD h c21 (K43 k)
noncomputable def K46 (k : Nat) : C := seqC E h k c21 (K43 k)
noncomputable def c22 : Code := subC b [1, 1, 1, 1, 1, 1, 1, 1, 0, 1]
noncomputable def K47 (k : Nat) : C := outD h c22 (K46 k)
noncomputable def K48 (k : Nat) : C := seqC E h k c22 (K46 k)
noncomputable def c23 : Code := subC b [1, 1, 1, 1, 1, 1, 1, 1, 0, 1, 0, 1]
noncomputable def K49 (k : Nat) : C := outD h c23 (K47 k)
noncomputable def K50 (k : Nat) : C := seqC E h k c23 (K47 k)
noncomputable def c24 : Code := subC b [1, 1, 1, 1, 1, 1, 1, 1, 1, 1]
noncomputable def K51 (k : Nat) : C := outD h c24 (K45 k)
noncomputable def K52 (k : Nat) : C := seqC E h k c24 (K45 k)
noncomputable def c25 : Code := subC b [1, 1, 1, 1, 1, 1, 1, 1, 1, 0, 1]
noncomputable def K53 (k : Nat) : C := outD h c25 (K52 k)
noncomputable def K54 (k : Nat) : C := seqC E h k c25 (K52 k)
noncomputable def c26 : Code := subC b [1, 1, 1, 1, 1, 1, 1, 1, 1, 0, 1, 0, 1]
noncomputable def K55 (k : Nat) : C := outD h c26 (K53 k)
noncomputable def K56 (k : Nat) : C := seqC E h k c26 (K53 k)
noncomputable def c27 : Code := subC b [1, 1, 1, 1, 1, 1, 1, 1, 1, 0, 1, 0, 0, 1]
noncomputable def K57 (k : Nat) : C := outD h c27 (K56 k)
noncomputable def K58 (k : Nat) : C := seqC E h k c27 (K56 k)
noncomputable def c28 : Code := subC b [1, 1, 1, 1, 1, 1, 1, 1, 1, 0, 1, 0, 0, 1, 0, 1]
noncomputable def K59 (k : Nat) : C := outD h c28 (K57 k)
noncomputable def K60 (k : Nat) : C := seqC E h k c28 (K57 k)
noncomputable def c29 : Code := subC b [1, 1, 1, 1, 1, 1, 1, 1, 1, 0, 1, 0, 1, 1]
noncomputable def K61 (k : Nat) : C := outD h c29 (K55 k)
noncomputable def K62 (k : Nat) : C := seqC E h k c29 (K55 k)
noncomputable def c30 : Code := subC b [1, 1, 1, 1, 1, 1, 1, 1, 1, 1, 1]
noncomputable def K63 (k : Nat) : C := outD h c30 (K51 k)
noncomputable def K64 (k : Nat) : C := seqC E h k c30 (K51 k)
noncomputable def c31 : Code := subC b [1, 1, 1, 1, 1, 1, 1, 1, 1, 1, 0, 1]
noncomputable def K65 (k : Nat) : C := outD h c31 (K64 k)
noncomputable def K66 (k : Nat) : C := seqC E h k c31 (K64 k)
noncomputable def c32 : Code := subC b [1, 1, 1, 1, 1, 1, 1, 1, 1, 1, 0, 1, 0, 1]
noncomputable def K67 (k : Nat) : C := outD h c32 (K65 k)
noncomputable def K68 (k : Nat) : C := seqC E h k c32 (K65 k)
noncomputable def c33 : Code := subC b [1, 1, 1, 1, 1, 1, 1, 1, 1, 1, 1, 1]
noncomputable def K69 (k : Nat) : C := outD h c33 (K63 k)
noncomputable def K70 (k : Nat) : C := seqC E h k c33 (K63 k)
noncomputable def c34 : Code := subC b [1, 1, 1, 1, 1, 1, 1, 1, 1, 1, 1, 0, 1]
noncomputable def K71 (k : Nat) : C := outD h c34 (K70 k)
noncomputable def K72 (k : Nat) : C := seqC E h k c34 (K70 k)
noncomputable def c35 : Code := subC b [1, 1, 1, 1, 1, 1, 1, 1, 1, 1, 1, 0, 1, 0, 1]
noncomputable def K73 (k : Nat) : C := outD h c35 (K71 k)
noncomputable def K74 (k : Nat) : C := seqC E h k c35 (K71 k)
noncomputable def c36 : Code := subC b [1, 1, 1, 1, 1, 1, 1, 1, 1, 1, 1, 1, 1]
noncomputable def K75 (k : Nat) : C := outD h c36 (K69 k)
noncomputable def K76 (k : Nat) : C := seqC E h k c36 (K69 k)
abbrev T2 := (List ((Int) × ((Int) × (List UInt8)))) → Int → Bool → Int → Int → Int → R
abbrev T7 := Int → ((Int) × ((Int) × (List UInt8))) → R
abbrev T6 := Int → Bool → ((Int) × ((Int) × (List UInt8))) → R
abbrev T5 := (List ((Int) × ((Int) × (List UInt8)))) → Int → Bool → Int → Int → R
abbrev T4 := (List ((Int) × ((Int) × (List UInt8)))) → Int → Bool → Int → Int → Int → R
abbrev T3 := (List ((Int) × ((Int) × (List UInt8)))) → Int → Bool → Int → Int → R
abbrev T1 := (List ((Int) × ((Int) × (List UInt8)))) → Int → Bool → Int → Int → Int → R
abbrev T0 := (List ((Int) × ((Int) × (List UInt8)))) → Int → Bool → R
abbrev s2 : (List ((Int) × ((Int) × (List UInt8)))) → Int → Bool → Int → Int → Int → ST cx := fun (x0 : List ((Int) × ((Int) × (List UInt8)))) (x1 : Int) (x2 : Bool) (x7 x8 x9 : Int) => ({ vars := [(0, .v (.slice 41 (.agg (.pair (.int .i64) (.pair (.int .i64) .str)))) .ro x0), (1, .v (.int .i64) .ro x1), (2, .v .bool .ro x2), (7, .v (.int .i64) .ro x7), (8, .v (.int .i64) .ro x8), (9, .v (.int .i64) .ro x9)], scr := [], mems := [] } : ST cx)
noncomputable def u2 (k n1 : Nat) : T2 := fun (x0 : List ((Int) × ((Int) × (List UInt8)))) (x1 : Int) (x2 : Bool) (x7 x8 x9 : Int) => uK (run E h k c8) (s2 x0 x1 x2 x7 x8 x9) (K17 k n1)
noncomputable abbrev l2 (k n1 : Nat) : T2 := fun (x0 : List ((Int) × ((Int) × (List UInt8)))) (x1 : Int) (x2 : Bool) (x7 x8 x9 : Int) => cutK (run E h k c8) (s2 x0 x1 x2 x7 x8 x9) (K17 k n1)
abbrev s7 : Int → ((Int) × ((Int) × (List UInt8))) → ST cx := fun (x8 : Int) (m11 : (Int) × ((Int) × (List UInt8))) => ({ vars := [(8, .v (.int .i64) .ro x8), (11, .addr (.mem 11) [])], scr := [], mems := [(11, ⟨(.agg (.pair (.int .i64) (.pair (.int .i64) .str))), .ro, m11⟩)] } : ST cx)
noncomputable def u7 (k : Nat) : T7 := fun (x8 : Int) (m11 : (Int) × ((Int) × (List UInt8))) => uK (run E h k c33) (s7 x8 m11) (K69 k)
noncomputable abbrev l7 (k : Nat) : T7 := fun (x8 : Int) (m11 : (Int) × ((Int) × (List UInt8))) => cutK (run E h k c33) (s7 x8 m11) (K69 k)
abbrev s6 : Int → Bool → ((Int) × ((Int) × (List UInt8))) → ST cx := fun (x8 : Int) (x100 : Bool) (m11 : (Int) × ((Int) × (List UInt8))) => ({ vars := [(8, .v (.int .i64) .ro x8), (11, .addr (.mem 11) []), (100, .v .bool .ro x100)], scr := [], mems := [(11, ⟨(.agg (.pair (.int .i64) (.pair (.int .i64) .str))), .ro, m11⟩)] } : ST cx)
noncomputable def u6 (k : Nat) : T6 := fun (x8 : Int) (x100 : Bool) (m11 : (Int) × ((Int) × (List UInt8))) => uK (run E h k c34) (s6 x8 x100 m11) (K71 k)
noncomputable abbrev l6 (k : Nat) : T6 := fun (x8 : Int) (x100 : Bool) (m11 : (Int) × ((Int) × (List UInt8))) => cutK (run E h k c34) (s6 x8 x100 m11) (K71 k)
abbrev s5 : (List ((Int) × ((Int) × (List UInt8)))) → Int → Bool → Int → Int → ST cx := fun (x0 : List ((Int) × ((Int) × (List UInt8)))) (x1 : Int) (x2 : Bool) (x7 x8 : Int) => ({ vars := [(0, .v (.slice 41 (.agg (.pair (.int .i64) (.pair (.int .i64) .str)))) .ro x0), (1, .v (.int .i64) .ro x1), (2, .v .bool .ro x2), (7, .v (.int .i64) .ro x7), (8, .v (.int .i64) .ro x8)], scr := [], mems := [] } : ST cx)
noncomputable def u5 (k : Nat) : T5 := fun (x0 : List ((Int) × ((Int) × (List UInt8)))) (x1 : Int) (x2 : Bool) (x7 x8 : Int) => uK (run E h k c13) (s5 x0 x1 x2 x7 x8) (K28 k)
noncomputable abbrev l5 (k : Nat) : T5 := fun (x0 : List ((Int) × ((Int) × (List UInt8)))) (x1 : Int) (x2 : Bool) (x7 x8 : Int) => cutK (run E h k c13) (s5 x0 x1 x2 x7 x8) (K28 k)
abbrev s4 : (List ((Int) × ((Int) × (List UInt8)))) → Int → Bool → Int → Int → Int → ST cx := fun (x0 : List ((Int) × ((Int) × (List UInt8)))) (x1 : Int) (x2 : Bool) (x7 x8 x10 : Int) => ({ vars := [(0, .v (.slice 41 (.agg (.pair (.int .i64) (.pair (.int .i64) .str)))) .ro x0), (1, .v (.int .i64) .ro x1), (2, .v .bool .ro x2), (7, .v (.int .i64) .ro x7), (8, .v (.int .i64) .ro x8), (10, .v (.int .i64) .ro x10)], scr := [], mems := [] } : ST cx)
noncomputable def u4 (k n4 : Nat) : T4 := fun (x0 : List ((Int) × ((Int) × (List UInt8)))) (x1 : Int) (x2 : Bool) (x7 x8 x10 : Int) => uK (loopL E h k c15 (K32 k) n4) (s4 x0 x1 x2 x7 x8 x10) ()
noncomputable abbrev l4 (k n4 : Nat) : T4 := fun (x0 : List ((Int) × ((Int) × (List UInt8)))) (x1 : Int) (x2 : Bool) (x7 x8 x10 : Int) => cutK (loopL E h k c15 (K32 k) n4) (s4 x0 x1 x2 x7 x8 x10) ()
abbrev s3 : (List ((Int) × ((Int) × (List UInt8)))) → Int → Bool → Int → Int → ST cx := fun (x0 : List ((Int) × ((Int) × (List UInt8)))) (x1 : Int) (x2 : Bool) (x7 x8 : Int) => ({ vars := [(0, .v (.slice 41 (.agg (.pair (.int .i64) (.pair (.int .i64) .str)))) .ro x0), (1, .v (.int .i64) .ro x1), (2, .v .bool .ro x2), (7, .v (.int .i64) .ro x7), (8, .v (.int .i64) .ro x8)], scr := [], mems := [] } : ST cx)
noncomputable def u3 (k : Nat) : T3 := fun (x0 : List ((Int) × ((Int) × (List UInt8)))) (x1 : Int) (x2 : Bool) (x7 x8 : Int) => uK (run E h k c3) (s3 x0 x1 x2 x7 x8) (K7 k)
noncomputable abbrev l3 (k : Nat) : T3 := fun (x0 : List ((Int) × ((Int) × (List UInt8)))) (x1 : Int) (x2 : Bool) (x7 x8 : Int) => cutK (run E h k c3) (s3 x0 x1 x2 x7 x8) (K7 k)
abbrev s1 : (List ((Int) × ((Int) × (List UInt8)))) → Int → Bool → Int → Int → Int → ST cx := fun (x0 : List ((Int) × ((Int) × (List UInt8)))) (x1 : Int) (x2 : Bool) (x7 x8 x9 : Int) => ({ vars := [(0, .v (.slice 41 (.agg (.pair (.int .i64) (.pair (.int .i64) .str)))) .ro x0), (1, .v (.int .i64) .ro x1), (2, .v .bool .ro x2), (7, .v (.int .i64) .ro x7), (8, .v (.int .i64) .ro x8), (9, .v (.int .i64) .ro x9)], scr := [], mems := [] } : ST cx)
noncomputable def u1 (k n1 : Nat) : T1 := fun (x0 : List ((Int) × ((Int) × (List UInt8)))) (x1 : Int) (x2 : Bool) (x7 x8 x9 : Int) => uK (loopL E h k c5 (K11 k) n1) (s1 x0 x1 x2 x7 x8 x9) ()
noncomputable abbrev l1 (k n1 : Nat) : T1 := fun (x0 : List ((Int) × ((Int) × (List UInt8)))) (x1 : Int) (x2 : Bool) (x7 x8 x9 : Int) => cutK (loopL E h k c5 (K11 k) n1) (s1 x0 x1 x2 x7 x8 x9) ()
noncomputable def u0 (k : Nat) : T0 := fun (x0 : List ((Int) × ((Int) × (List UInt8)))) (x1 : Int) (x2 : Bool) => runOf (S := cx) E h k Try.f69 [.val (.slice 41 (.agg (.pair (.int .i64) (.pair (.int .i64) .str)))), .val (.int .i64), .val .bool] (.int .i64) .ro (x0, x1, x2, ())
def t2 (f1 : T1) : T2 := fun (x0 : List ((Int) × ((Int) × (List UInt8)))) (x1 : Int) (x2 : Bool) (x7 x8 x9 : Int) => 
  (f1 x0 x1 x2 x7 x8 (w64 (x9 + (1 : Int))))
theorem e2 (k n1 : Nat) : u2 k n1 = t2 (l1 k n1) := by kernel_rfl
theorem g2 (k n1 : Nat) : l2 k n1 = u2 k n1 := funext fun _ => funext fun _ => funext fun _ => funext fun _ => funext fun _ => funext fun _ => cut_u _ _ _
theorem d2 {x1 y1 : T1} (h1 : x1 = y1) : t2 x1 = t2 y1 := by subst h1; rfl
def p2 (k : Nat) (a1 : T1) : T2 := t2 a1
theorem o2 (k n1 : Nat) (a1 : T1) (h1 : l1 k n1 = a1) : l2 k n1 = p2 k a1 := (Eq.trans (b := u2 k n1) (g2 k n1) (Eq.trans (b := t2 (l1 k n1)) (e2 k n1) (Eq.trans (b := t2 a1) (d2 h1) (by kernel_rfl))))
def t7 : T7 := fun (x8 : Int) (m11 : (Int) × ((Int) × (List UInt8))) => 
  (some ((w64 (x8 + m11.1)), ()))
theorem e7 (k : Nat) : u7 k = t7 := by kernel_rfl
theorem g7 (k : Nat) : l7 k = u7 k := funext fun _ => funext fun _ => cut_u _ _ _
def p7 (k : Nat) : T7 := t7
theorem o7 (k : Nat) : l7 k = p7 k := (Eq.trans (b := u7 k) (g7 k) (Eq.trans (b := t7) (e7 k) (by kernel_rfl)))
def t6 (f7 : T7) : T6 := fun (x8 : Int) (x100 : Bool) (m11 : (Int) × ((Int) × (List UInt8))) => 
  (iteB x100 (some ((w64 ((w64 (x8 + m11.1)) + ((List.length m11.2.2 : Nat) : Int))), ())) (f7 x8 m11))
theorem e6 (k : Nat) : u6 k = t6 (l7 k) := by kernel_rfl
theorem g6 (k : Nat) : l6 k = u6 k := funext fun _ => funext fun _ => funext fun _ => cut_u _ _ _
theorem d6 {x7 y7 : T7} (h7 : x7 = y7) : t6 x7 = t6 y7 := by subst h7; rfl
def p6 (k : Nat) : T6 := t6 (p7 k)
theorem o6 (k : Nat) : l6 k = p6 k := (Eq.trans (b := u6 k) (g6 k) (Eq.trans (b := t6 (l7 k)) (e6 k) (Eq.trans (b := t6 (p7 k)) (d6 (o7 k)) (by kernel_rfl))))
def t5 (f6 : T6) : T5 := fun (x0 : List ((Int) × ((Int) × (List UInt8)))) (x1 : Int) (x2 : Bool) (x7 x8 : Int) => 
  (withinR x7 (List.length x0) fun q4 => (iteB (decide ((w64 ((List.getD x0 q4 ((0 : Int), ((0 : Int), ([] : List UInt8)))).1 + (List.getD x0 q4 ((0 : Int), ((0 : Int), ([] : List UInt8)))).2.1)) < x1)) (some ((w64 ((w64 ((w64 (x8 + x1)) + ((List.length (List.getD x0 q4 ((0 : Int), ((0 : Int), ([] : List UInt8)))).2.2 : Nat) : Int))) - (List.getD x0 q4 ((0 : Int), ((0 : Int), ([] : List UInt8)))).2.1)), ())) (iteB (decide ((List.getD x0 q4 ((0 : Int), ((0 : Int), ([] : List UInt8)))).2.1 = (0 : Int))) (iteB x2 (some ((w64 ((w64 (x8 + (List.getD x0 q4 ((0 : Int), ((0 : Int), ([] : List UInt8)))).1)) + ((List.length (List.getD x0 q4 ((0 : Int), ((0 : Int), ([] : List UInt8)))).2.2 : Nat) : Int))), ())) (some ((w64 (x8 + (List.getD x0 q4 ((0 : Int), ((0 : Int), ([] : List UInt8)))).1)), ()))) (iteB (decide (x1 = (List.getD x0 q4 ((0 : Int), ((0 : Int), ([] : List UInt8)))).1)) (some ((w64 (x8 + (List.getD x0 q4 ((0 : Int), ((0 : Int), ([] : List UInt8)))).1)), ())) (iteB (decide (x1 = (w64 ((List.getD x0 q4 ((0 : Int), ((0 : Int), ([] : List UInt8)))).1 + (List.getD x0 q4 ((0 : Int), ((0 : Int), ([] : List UInt8)))).2.1)))) (f6 x8 true (List.getD x0 q4 ((0 : Int), ((0 : Int), ([] : List UInt8))))) (f6 x8 x2 (List.getD x0 q4 ((0 : Int), ((0 : Int), ([] : List UInt8))))))))))
theorem e5 (k : Nat) : u5 k = t5 (l6 k) := by kernel_rfl
theorem g5 (k : Nat) : l5 k = u5 k := funext fun _ => funext fun _ => funext fun _ => funext fun _ => funext fun _ => cut_u _ _ _
theorem d5 {x6 y6 : T6} (h6 : x6 = y6) : t5 x6 = t5 y6 := by subst h6; rfl
def p5 (k : Nat) : T5 := t5 (p6 k)
theorem o5 (k : Nat) : l5 k = p5 k := (Eq.trans (b := u5 k) (g5 k) (Eq.trans (b := t5 (l6 k)) (e5 k) (Eq.trans (b := t5 (p6 k)) (d5 (o6 k)) (by kernel_rfl))))
def t4 (f4 : T4) (f5 : T5) : T4 := fun (x0 : List ((Int) × ((Int) × (List UInt8)))) (x1 : Int) (x2 : Bool) (x7 x8 x10 : Int) => 
  (iteB (decide (x10 < x7)) (withinR x10 (List.length x0) fun q2 => (withinR x10 (List.length x0) fun q3 => (f4 x0 x1 x2 x7 (w64 ((w64 (x8 + ((List.length (List.getD x0 q2 ((0 : Int), ((0 : Int), ([] : List UInt8)))).2.2 : Nat) : Int))) - (List.getD x0 q3 ((0 : Int), ((0 : Int), ([] : List UInt8)))).2.1)) (w64 (x10 + (1 : Int)))))) (f5 x0 x1 x2 x7 x8))
theorem e4 (k n4 : Nat) : u4 k (n4 + 1) = t4 (l4 k n4) (l5 k) := by kernel_rfl
theorem g4 (k n4 : Nat) : l4 k (n4 + 1) = u4 k (n4 + 1) := funext fun _ => funext fun _ => funext fun _ => funext fun _ => funext fun _ => funext fun _ => cut_u _ _ _
theorem d4 {x4 y4 : T4} {x5 y5 : T5} (h4 : x4 = y4) (h5 : x5 = y5) : t4 x4 x5 = t4 y4 y5 := by subst h4; subst h5; rfl
def p4 (k : Nat) : Nat → T4
  | 0 => fun _ _ _ _ _ _ => none
  | n4 + 1 => t4 (p4 k n4) (p5 k)
theorem o4 (k : Nat) : ∀ n4, l4 k n4 = p4 k n4 := by
  intro n4
  induction n4 with
  | zero => kernel_rfl
  | succ n4 ih => exact (Eq.trans (b := u4 k (n4 + 1)) (g4 k n4) (Eq.trans (b := t4 (l4 k n4) (l5 k)) (e4 k n4) (Eq.trans (b := t4 (p4 k n4) (p5 k)) (d4 ih (o5 k)) (by kernel_rfl))))
def t3 (f4 : T4) : T3 := fun (x0 : List ((Int) × ((Int) × (List UInt8)))) (x1 : Int) (x2 : Bool) (x7 x8 : Int) => 
  (iteB (decide (x7 < (0 : Int))) (some (x1, ())) (f4 x0 x1 x2 x7 x8 (0 : Int)))
theorem e3 (k : Nat) : u3 k = t3 (l4 k k) := by kernel_rfl
theorem g3 (k : Nat) : l3 k = u3 k := funext fun _ => funext fun _ => funext fun _ => funext fun _ => funext fun _ => cut_u _ _ _
theorem d3 {x4 y4 : T4} (h4 : x4 = y4) : t3 x4 = t3 y4 := by subst h4; rfl
def p3 (k : Nat) : T3 := t3 (p4 k k)
theorem o3 (k : Nat) : l3 k = p3 k := (Eq.trans (b := u3 k) (g3 k) (Eq.trans (b := t3 (l4 k k)) (e3 k) (Eq.trans (b := t3 (p4 k k)) (d3 (o4 k k)) (by kernel_rfl))))
def t1 (f2 : T2) (f3 : T3) : T1 := fun (x0 : List ((Int) × ((Int) × (List UInt8)))) (x1 : Int) (x2 : Bool) (x7 x8 x9 : Int) => 
  (iteB (decide (x9 < ((List.length x0 : Nat) : Int))) (withinR x9 (List.length x0) fun q1 => (iteB (decide ((List.getD x0 q1 ((0 : Int), ((0 : Int), ([] : List UInt8)))).1 ≤ x1)) (f2 x0 x1 x2 x9 x8 x9) (f2 x0 x1 x2 x7 x8 x9))) (f3 x0 x1 x2 x7 x8))
theorem e1 (k n1 : Nat) : u1 k (n1 + 1) = t1 (l2 k n1) (l3 k) := by kernel_rfl
theorem g1 (k n1 : Nat) : l1 k (n1 + 1) = u1 k (n1 + 1) := funext fun _ => funext fun _ => funext fun _ => funext fun _ => funext fun _ => funext fun _ => cut_u _ _ _
theorem d1 {x2 y2 : T2} {x3 y3 : T3} (h2 : x2 = y2) (h3 : x3 = y3) : t1 x2 x3 = t1 y2 y3 := by subst h2; subst h3; rfl
def p1 (k : Nat) : Nat → T1
  | 0 => fun _ _ _ _ _ _ => none
  | n1 + 1 => t1 (p2 k (p1 k n1)) (p3 k)
theorem o1 (k : Nat) : ∀ n1, l1 k n1 = p1 k n1 := by
  intro n1
  induction n1 with
  | zero => kernel_rfl
  | succ n1 ih => exact (Eq.trans (b := u1 k (n1 + 1)) (g1 k n1) (Eq.trans (b := t1 (l2 k n1) (l3 k)) (e1 k n1) (Eq.trans (b := t1 (p2 k (p1 k n1)) (p3 k)) (d1 (o2 k n1 (p1 k n1) ih) (o3 k)) (by kernel_rfl))))
def t0 (f1 : T1) : T0 := fun (x0 : List ((Int) × ((Int) × (List UInt8)))) (x1 : Int) (x2 : Bool) => 
  (f1 x0 x1 x2 (-1 : Int) (0 : Int) (0 : Int))
theorem e0 (k : Nat) : u0 k = t0 (l1 k k) := by kernel_rfl
theorem d0 {x1 y1 : T1} (h1 : x1 = y1) : t0 x1 = t0 y1 := by subst h1; rfl
def p0 (k : Nat) : T0 := t0 (p1 k k)
theorem o0 (k : Nat) : u0 k = p0 k := (Eq.trans (b := t0 (l1 k k)) (e0 k) (Eq.trans (b := t0 (p1 k k)) (d0 (o1 k k)) (by kernel_rfl)))
end ref04_Move
def s_ref04_Move (a : (List ((Int) × ((Int) × (List UInt8)))) × ((Int) × ((Bool) × (Unit)))) : Option ((Int) × (Unit)) := ref04_Move.p0 (fuel) a.1 a.2.1 a.2.2.1
noncomputable def F_ref04_Move : FSpec cx.toNm := { ps := [.val (.slice 41 (.agg (.pair (.int .i64) (.pair (.int .i64) .str)))), .val (.int .i64), .val .bool], nres := 1, rt := (.int .i64), rm := .ro, f := s_ref04_Move }
theorem w_ref04_Move (a : (List ((Int) × ((Int) × (List UInt8)))) × ((Int) × ((Bool) × (Unit)))) : runOf (S := cx) ref04_Move.E ref04_Move.h (fuel) Try.f69 F_ref04_Move.ps F_ref04_Move.rt F_ref04_Move.rm a = F_ref04_Move.f a := Eq.trans (b := ref04_Move.u0 (fuel) a.1 a.2.1 a.2.2.1) (by kernel_rfl) (Eq.trans (b := ref04_Move.p0 (fuel) a.1 a.2.1 a.2.2.1) (congrFun (congrFun (congrFun (ref04_Move.o0 (fuel)) a.1) a.2.1) a.2.2.1) (by kernel_rfl))
theorem ok_ref04_Move : FnOk Try.prog F_ref04_Move 69 := fn_of (hn := ref04_Move.h) (E := ref04_Move.E) cxOk (tysT _) fs_nil follows Try.func69 (by kernel_rfl) (fun a r h => ⟨fuel, Eq.trans (w_ref04_Move a) h⟩)
end
end Go.Proofs.Ytdifekkamjoepaa.Vm.Rp
