/- What the functions compute, as plain functions; that they do; what is alive. -/
import Derived.Test.YtdnkjfmneppkoaaFnsA
import Derived.KernelRfl
namespace Go.Proofs.Ytdnkjfmneppkoaa.Vm.Tr
open Go Go.Proofs.Ytdnkjfmneppkoaa.Vm Go.Proofs
set_option linter.unusedVariables false
set_option maxRecDepth 100000
noncomputable section
namespace ref11_closed
noncomputable def E : Env cx := { tys := tys, fs := fsOf [] }
abbrev R := Option ((List (List (Bool))) × (Unit))
abbrev C := Exit → ST cx → R
noncomputable def b : Code := bodyC Try.f51
noncomputable def h : Hint := { vs := [0, 2, 3, 4, 5, 6], nil := [(0, (.own .ro)), (2, (.own (.own .ro)))], cuts := [(3, ([0, 3, 4], []), ([0], [])), (4, ([0, 3, 4], []), ([0, 3, 4], [])), (6, ([0, 3, 4, 5], []), ([0, 3, 4], [])), (7, ([0, 3, 4, 5], []), ([0, 3, 4, 5], [])), (9, ([0, 3, 4, 5, 6], []), ([0, 3, 4, 5], [])), (10, ([0, 3, 4, 5, 6], []), ([0, 3, 4, 5, 6], [])), (12, ([0], []), ([0], []))], ret := ([2], []), ords := [] }
noncomputable def K0 : C := fin (S := cx) E Try.f51.results.toList (.slice 76 (.slice 4 .bool)) (.own (.own .ro)) [] []
noncomputable def c0 : Code := subC b [1]
noncomputable def K1 (k : Nat) : C := outD h c0 K0
noncomputable def K2 (k : Nat) : C := seqC E h k c0 K0
noncomputable def c1 : Code := subC b [1, 1]
noncomputable def K3 (k : Nat) : C := outD h c1 (K1 k)
noncomputable def K4 (k : Nat) : C := seqC E h k c1 (K1 k)
noncomputable def c2 : Code := subC b [1, 1, 1]
noncomputable def K5 (k : Nat) : C := outD h c2 (K3 k)
noncomputable def K6 (k : Nat) : C := seqC E h k c2 (K3 k)
noncomputable def c3 : Code := subC b [1, 1, 0, 1]
noncomputable def K7 (k : Nat) : C := outD h c3 (K6 k)
noncomputable def K8 (k : Nat) : C := seqC E h k c3 (K6 k)
noncomputable def K9 (k : Nat) : C := blockK 0 (K7 k)
noncomputable def c4 : Code := subC b [1, 1, 0, 1, 0, 0]
noncomputable def K10 (k n1 : Nat) : C := loopD E h k c4 (K9 k) n1
noncomputable def c5 : Code := subC b [1, 1, 0, 1, 0, 0, 1]
noncomputable def K11 (k n1 : Nat) : C := outD h c5 (K10 k n1)
noncomputable def K12 (k n1 : Nat) : C := seqC E h k c5 (K10 k n1)
noncomputable def c6 : Code := subC b [1, 1, 0, 1, 0, 0, 0, 1]
noncomputable def K13 (k n1 : Nat) : C := outD h c6 (K12 k n1)
noncomputable def K14 (k n1 : Nat) : C := seqC E h k c6 (K12 k n1)
noncomputable def c7 : Code := subC b [1, 1, 0, 1, 0, 0, 1, 1]
noncomputable def K15 (k n1 : Nat) : C := outD h c7 (K11 k n1)
noncomputable def K16 (k n1 : Nat) : C := seqC E h k c7 (K11 k n1)
noncomputable def K17 (k n1 : Nat) : C := blockK 1 (K16 k n1)
noncomputable def c8 : Code := subC b [1, 1, 0, 1, 0, 0, 1, 0, 0, 1]
noncomputable def K18 (k n1 : Nat) : C := outD h c8 (K17 k n1)
noncomputable def K19 (k n1 : Nat) : C := seqC E h k c8 (K17 k n1)
noncomputable def K20 (k n1 : Nat) : C := blockK 2 (K18 k n1)
noncomputable def c9 : Code := subC b [1, 1, 0, 1, 0, 0, 1, 0, 0, 1, 0, 0]
noncomputable def K21 (k n1 n2 : Nat) : C := loopD E h k c9 (K20 k n1) n2
noncomputable def c10 : Code := subC b [1, 1, 0, 1, 0, 0, 1, 0, 0, 1, 0, 0, 1]
noncomputable def K22 (k n1 n2 : Nat) : C := outD h c10 (K21 k n1 n2)
noncomputable def K23 (k n1 n2 : Nat) : C := seqC E h k c10 (K21 k n1 n2)
noncomputable def c11 : Code := subC b [1, 1, 0, 1, 0, 0, 1, 0, 0, 1, 0, 0, 0, 1]
noncomputable def K24 (k n1 n2 : Nat) : C := outD h c11 (K23 k n1 n2)
noncomputable def K25 (k n1 n2 : Nat) : C := seqC E h k c11 (K23 k n1 n2)
noncomputable def c12 : Code := subC b [1, 1, 0, 1, 0, 0, 1, 0, 0, 1, 0, 0, 1, 1]
noncomputable def K26 (k n1 n2 : Nat) : C := outD h c12 (K22 k n1 n2)
noncomputable def K27 (k n1 n2 : Nat) : C := seqC E h k c12 (K22 k n1 n2)
noncomputable def K28 (k n1 n2 : Nat) : C := blockK 3 (K27 k n1 n2)
noncomputable def c13 : Code := subC b [1, 1, 0, 1, 0, 0, 1, 0, 0, 1, 0, 0, 1, 0, 0, 1]
noncomputable def K29 (k n1 n2 : Nat) : C := outD h c13 (K28 k n1 n2)
noncomputable def K30 (k n1 n2 : Nat) : C := seqC E h k c13 (K28 k n1 n2)
noncomputable def K31 (k n1 n2 : Nat) : C := blockK 4 (K29 k n1 n2)
noncomputable def c14 : Code := subC b [1, 1, 0, 1, 0, 0, 1, 0, 0, 1, 0, 0, 1, 0, 0, 1, 0, 0]
noncomputable def K32 (k n1 n2 n4 : Nat) : C := loopD E h k c14 (K31 k n1 n2) n4
noncomputable def c15 : Code := subC b [1, 1, 0, 1, 0, 0, 1, 0, 0, 1, 0, 0, 1, 0, 0, 1, 0, 0, 1]
noncomputable def K33 (k n1 n2 n4 : Nat) : C := outD h c15 (K32 k n1 n2 n4)
noncomputable def K34 (k n1 n2 n4 : Nat) : C := seqC E h k c15 (K32 k n1 n2 n4)
noncomputable def c16 : Code := subC b [1, 1, 0, 1, 0, 0, 1, 0, 0, 1, 0, 0, 1, 0, 0, 1, 0, 0, 0, 1]
noncomputable def K35 (k n1 n2 n4 : Nat) : C := outD h c16 (K34 k n1 n2 n4)
noncomputable def K36 (k n1 n2 n4 : Nat) : C := seqC E h k c16 (K34 k n1 n2 n4)
noncomputable def c17 : Code := subC b [1, 1, 0, 1, 0, 0, 1, 0, 0, 1, 0, 0, 1, 0, 0, 1, 0, 0, 1, 1]
noncomputable def K37 (k n1 n2 n4 : Nat) : C := outD h c17 (K33 k n1 n2 n4)
noncomputable def K38 (k n1 n2 n4 : Nat) : C := seqC E h k c17 (K33 k n1 n2 n4)
noncomputable def K39 (k n1 n2 n4 : Nat) : C := blockK 5 (K38 k n1 n2 n4)
noncomputable def c18 : Code := subC b [1, 1, 1, 1]
noncomputable def K40 (k : Nat) : C := outD h c18 (K5 k)
noncomputable def K41 (k : Nat) : C := seqC E h k c18 (K5 k)
abbrev T6 := (List (List (Bool))) → Int → Int → Int → Int → R
abbrev T7 := (List (List (Bool))) → Int → Int → Int → R
abbrev T4 := (List (List (Bool))) → Int → Int → Int → Int → R
abbrev T5 := (List (List (Bool))) → Int → Int → R
abbrev T2 := (List (List (Bool))) → Int → Int → Int → R
abbrev T3 := (List (List (Bool))) → R
abbrev T1 := (List (List (Bool))) → Int → Int → R
abbrev T0 := (List (List (Bool))) → R
abbrev s6 : (List (List (Bool))) → Int → Int → Int → Int → ST cx := fun (x0 : List (List (Bool))) (x3 x4 x5 x6 : Int) => ({ vars := [(0, .v (.slice 76 (.slice 4 .bool)) (.own (.own .ro)) x0), (3, .v (.int .i64) .ro x3), (4, .v (.int .i64) .ro x4), (5, .v (.int .i64) .ro x5), (6, .v (.int .i64) .ro x6)], scr := [], mems := [] } : ST cx)
noncomputable def u6 (k n1 n2 n4 : Nat) : T6 := fun (x0 : List (List (Bool))) (x3 x4 x5 x6 : Int) => uK (run E h k c17) (s6 x0 x3 x4 x5 x6) (K37 k n1 n2 n4)
noncomputable abbrev l6 (k n1 n2 n4 : Nat) : T6 := fun (x0 : List (List (Bool))) (x3 x4 x5 x6 : Int) => cutK (run E h k c17) (s6 x0 x3 x4 x5 x6) (K37 k n1 n2 n4)
abbrev s7 : (List (List (Bool))) → Int → Int → Int → ST cx := fun (x0 : List (List (Bool))) (x3 x4 x5 : Int) => ({ vars := [(0, .v (.slice 76 (.slice 4 .bool)) (.own (.own .ro)) x0), (3, .v (.int .i64) .ro x3), (4, .v (.int .i64) .ro x4), (5, .v (.int .i64) .ro x5)], scr := [], mems := [] } : ST cx)
noncomputable def u7 (k n1 n2 : Nat) : T7 := fun (x0 : List (List (Bool))) (x3 x4 x5 : Int) => uK (run E h k c12) (s7 x0 x3 x4 x5) (K26 k n1 n2)
noncomputable abbrev l7 (k n1 n2 : Nat) : T7 := fun (x0 : List (List (Bool))) (x3 x4 x5 : Int) => cutK (run E h k c12) (s7 x0 x3 x4 x5) (K26 k n1 n2)
abbrev s4 : (List (List (Bool))) → Int → Int → Int → Int → ST cx := fun (x0 : List (List (Bool))) (x3 x4 x5 x6 : Int) => ({ vars := [(0, .v (.slice 76 (.slice 4 .bool)) (.own (.own .ro)) x0), (3, .v (.int .i64) .ro x3), (4, .v (.int .i64) .ro x4), (5, .v (.int .i64) .ro x5), (6, .v (.int .i64) .ro x6)], scr := [], mems := [] } : ST cx)
noncomputable def u4 (k n1 n2 n4 : Nat) : T4 := fun (x0 : List (List (Bool))) (x3 x4 x5 x6 : Int) => uK (loopL E h k c14 (K31 k n1 n2) n4) (s4 x0 x3 x4 x5 x6) ()
noncomputable abbrev l4 (k n1 n2 n4 : Nat) : T4 := fun (x0 : List (List (Bool))) (x3 x4 x5 x6 : Int) => cutK (loopL E h k c14 (K31 k n1 n2) n4) (s4 x0 x3 x4 x5 x6) ()
abbrev s5 : (List (List (Bool))) → Int → Int → ST cx := fun (x0 : List (List (Bool))) (x3 x4 : Int) => ({ vars := [(0, .v (.slice 76 (.slice 4 .bool)) (.own (.own .ro)) x0), (3, .v (.int .i64) .ro x3), (4, .v (.int .i64) .ro x4)], scr := [], mems := [] } : ST cx)
noncomputable def u5 (k n1 : Nat) : T5 := fun (x0 : List (List (Bool))) (x3 x4 : Int) => uK (run E h k c7) (s5 x0 x3 x4) (K15 k n1)
noncomputable abbrev l5 (k n1 : Nat) : T5 := fun (x0 : List (List (Bool))) (x3 x4 : Int) => cutK (run E h k c7) (s5 x0 x3 x4) (K15 k n1)
abbrev s2 : (List (List (Bool))) → Int → Int → Int → ST cx := fun (x0 : List (List (Bool))) (x3 x4 x5 : Int) => ({ vars := [(0, .v (.slice 76 (.slice 4 .bool)) (.own (.own .ro)) x0), (3, .v (.int .i64) .ro x3), (4, .v (.int .i64) .ro x4), (5, .v (.int .i64) .ro x5)], scr := [], mems := [] } : ST cx)
noncomputable def u2 (k n1 n2 : Nat) : T2 := fun (x0 : List (List (Bool))) (x3 x4 x5 : Int) => uK (loopL E h k c9 (K20 k n1) n2) (s2 x0 x3 x4 x5) ()
noncomputable abbrev l2 (k n1 n2 : Nat) : T2 := fun (x0 : List (List (Bool))) (x3 x4 x5 : Int) => cutK (loopL E h k c9 (K20 k n1) n2) (s2 x0 x3 x4 x5) ()
abbrev s3 : (List (List (Bool))) → ST cx := fun (x0 : List (List (Bool))) => ({ vars := [(0, .v (.slice 76 (.slice 4 .bool)) (.own (.own .ro)) x0)], scr := [], mems := [] } : ST cx)
noncomputable def u3 (k : Nat) : T3 := fun (x0 : List (List (Bool))) => uK (run E h k c2) (s3 x0) (K5 k)
noncomputable abbrev l3 (k : Nat) : T3 := fun (x0 : List (List (Bool))) => cutK (run E h k c2) (s3 x0) (K5 k)
abbrev s1 : (List (List (Bool))) → Int → Int → ST cx := fun (x0 : List (List (Bool))) (x3 x4 : Int) => ({ vars := [(0, .v (.slice 76 (.slice 4 .bool)) (.own (.own .ro)) x0), (3, .v (.int .i64) .ro x3), (4, .v (.int .i64) .ro x4)], scr := [], mems := [] } : ST cx)
noncomputable def u1 (k n1 : Nat) : T1 := fun (x0 : List (List (Bool))) (x3 x4 : Int) => uK (loopL E h k c4 (K9 k) n1) (s1 x0 x3 x4) ()
noncomputable abbrev l1 (k n1 : Nat) : T1 := fun (x0 : List (List (Bool))) (x3 x4 : Int) => cutK (loopL E h k c4 (K9 k) n1) (s1 x0 x3 x4) ()
noncomputable def u0 (k : Nat) : T0 := fun (x0 : List (List (Bool))) => runOf (S := cx) E h k Try.f51 [.own (.slice 76 (.slice 4 .bool)) (.own (.own .ro))] (.slice 76 (.slice 4 .bool)) (.own (.own .ro)) (x0, ())
def t6 (f4 : T4) : T6 := fun (x0 : List (List (Bool))) (x3 x4 x5 x6 : Int) => 
  (f4 x0 x3 x4 x5 (w64 (x6 + (1 : Int))))
theorem e6 (k n1 n2 n4 : Nat) : u6 k n1 n2 n4 = t6 (l4 k n1 n2 n4) := by kernel_rfl
theorem g6 (k n1 n2 n4 : Nat) : l6 k n1 n2 n4 = u6 k n1 n2 n4 := funext fun _ => funext fun _ => funext fun _ => funext fun _ => funext fun _ => cut_u _ _ _
theorem d6 {x4 y4 : T4} (h4 : x4 = y4) : t6 x4 = t6 y4 := by subst h4; rfl
def p6 (k : Nat) (a1 : T1) (a2 : T2) (a4 : T4) : T6 := t6 a4
theorem o6 (k n1 n2 n4 : Nat) (a1 : T1) (a2 : T2) (a4 : T4) (h1 : l1 k n1 = a1) (h2 : l2 k n1 n2 = a2) (h4 : l4 k n1 n2 n4 = a4) : l6 k n1 n2 n4 = p6 k a1 a2 a4 := (Eq.trans (b := u6 k n1 n2 n4) (g6 k n1 n2 n4) (Eq.trans (b := t6 (l4 k n1 n2 n4)) (e6 k n1 n2 n4) (Eq.trans (b := t6 a4) (d6 h4) (by kernel_rfl))))
def t7 (f2 : T2) : T7 := fun (x0 : List (List (Bool))) (x3 x4 x5 : Int) => 
  (f2 x0 x3 x4 (w64 (x5 + (1 : Int))))
theorem e7 (k n1 n2 : Nat) : u7 k n1 n2 = t7 (l2 k n1 n2) := by kernel_rfl
theorem g7 (k n1 n2 : Nat) : l7 k n1 n2 = u7 k n1 n2 := funext fun _ => funext fun _ => funext fun _ => funext fun _ => cut_u _ _ _
theorem d7 {x2 y2 : T2} (h2 : x2 = y2) : t7 x2 = t7 y2 := by subst h2; rfl
def p7 (k : Nat) (a1 : T1) (a2 : T2) : T7 := t7 a2
theorem o7 (k n1 n2 : Nat) (a1 : T1) (a2 : T2) (h1 : l1 k n1 = a1) (h2 : l2 k n1 n2 = a2) : l7 k n1 n2 = p7 k a1 a2 := (Eq.trans (b := u7 k n1 n2) (g7 k n1 n2) (Eq.trans (b := t7 (l2 k n1 n2)) (e7 k n1 n2) (Eq.trans (b := t7 a2) (d7 h2) (by kernel_rfl))))
def t4 (f6 : T6) (f7 : T7) : T4 := fun (x0 : List (List (Bool))) (x3 x4 x5 x6 : Int) => 
  (iteB (decide (x6 < x3)) (withinR x5 (List.length x0) fun q1 => (withinR x5 (List.length x0) fun q2 => (withinR x6 (List.length (List.getD x0 q2 ([] : List (Bool)))) fun q3 => (iteB (List.getD (List.getD x0 q2 ([] : List (Bool))) q3 false) (withinR x6 (List.length (List.getD x0 q1 ([] : List (Bool)))) fun q4 => (f6 (List.set x0 q1 (List.set (List.getD x0 q1 ([] : List (Bool))) q4 true)) x3 x4 x5 x6)) (withinR x5 (List.length x0) fun q5 => (withinR x4 (List.length (List.getD x0 q5 ([] : List (Bool)))) fun q6 => (iteB (List.getD (List.getD x0 q5 ([] : List (Bool))) q6 false) (withinR x4 (List.length x0) fun q7 => (withinR x6 (List.length (List.getD x0 q7 ([] : List (Bool)))) fun q8 => (withinR x6 (List.length (List.getD x0 q1 ([] : List (Bool)))) fun q9 => (f6 (List.set x0 q1 (List.set (List.getD x0 q1 ([] : List (Bool))) q9 (List.getD (List.getD x0 q7 ([] : List (Bool))) q8 false))) x3 x4 x5 x6)))) (withinR x6 (List.length (List.getD x0 q1 ([] : List (Bool)))) fun q10 => (f6 (List.set x0 q1 (List.set (List.getD x0 q1 ([] : List (Bool))) q10 false)) x3 x4 x5 x6))))))))) (f7 x0 x3 x4 x5))
theorem e4 (k n1 n2 n4 : Nat) : u4 k n1 n2 (n4 + 1) = t4 (l6 k n1 n2 n4) (l7 k n1 n2) := by kernel_rfl
theorem g4 (k n1 n2 n4 : Nat) : l4 k n1 n2 (n4 + 1) = u4 k n1 n2 (n4 + 1) := funext fun _ => funext fun _ => funext fun _ => funext fun _ => funext fun _ => cut_u _ _ _
theorem d4 {x6 y6 : T6} {x7 y7 : T7} (h6 : x6 = y6) (h7 : x7 = y7) : t4 x6 x7 = t4 y6 y7 := by subst h6; subst h7; rfl
def p4 (k : Nat) (a1 : T1) (a2 : T2) : Nat → T4
  | 0 => fun _ _ _ _ _ => none
  | n4 + 1 => t4 (p6 k a1 a2 (p4 k a1 a2 n4)) (p7 k a1 a2)
theorem o4 (k n1 n2 : Nat) (a1 : T1) (a2 : T2) (h1 : l1 k n1 = a1) (h2 : l2 k n1 n2 = a2) : ∀ n4, l4 k n1 n2 n4 = p4 k a1 a2 n4 := by
  intro n4
  induction n4 with
  | zero => kernel_rfl
  | succ n4 ih => exact (Eq.trans (b := u4 k n1 n2 (n4 + 1)) (g4 k n1 n2 n4) (Eq.trans (b := t4 (l6 k n1 n2 n4) (l7 k n1 n2)) (e4 k n1 n2 n4) (Eq.trans (b := t4 (p6 k a1 a2 (p4 k a1 a2 n4)) (p7 k a1 a2)) (d4 (o6 k n1 n2 n4 a1 a2 (p4 k a1 a2 n4) h1 h2 ih) (o7 k n1 n2 a1 a2 h1 h2)) (by kernel_rfl))))
def t5 (f1 : T1) : T5 := fun (x0 : List (List (Bool))) (x3 x4 : Int) => 
  (f1 x0 x3 (w64 (x4 + (1 : Int))))
theorem e5 (k n1 : Nat) : u5 k n1 = t5 (l1 k n1) := by kernel_rfl
theorem g5 (k n1 : Nat) : l5 k n1 = u5 k n1 := funext fun _ => funext fun _ => funext fun _ => cut_u _ _ _
theorem d5 {x1 y1 : T1} (h1 : x1 = y1) : t5 x1 = t5 y1 := by subst h1; rfl
def p5 (k : Nat) (a1 : T1) : T5 := t5 a1
theorem o5 (k n1 : Nat) (a1 : T1) (h1 : l1 k n1 = a1) : l5 k n1 = p5 k a1 := (Eq.trans (b := u5 k n1) (g5 k n1) (Eq.trans (b := t5 (l1 k n1)) (e5 k n1) (Eq.trans (b := t5 a1) (d5 h1) (by kernel_rfl))))
def t2 (f4 : T4) (f5 : T5) : T2 := fun (x0 : List (List (Bool))) (x3 x4 x5 : Int) => 
  (iteB (decide (x5 < x3)) (f4 x0 x3 x4 x5 (0 : Int)) (f5 x0 x3 x4))
theorem e2 (k n1 n2 : Nat) : u2 k n1 (n2 + 1) = t2 (l4 k n1 n2 k) (l5 k n1) := by kernel_rfl
theorem g2 (k n1 n2 : Nat) : l2 k n1 (n2 + 1) = u2 k n1 (n2 + 1) := funext fun _ => funext fun _ => funext fun _ => funext fun _ => cut_u _ _ _
theorem d2 {x4 y4 : T4} {x5 y5 : T5} (h4 : x4 = y4) (h5 : x5 = y5) : t2 x4 x5 = t2 y4 y5 := by subst h4; subst h5; rfl
def p2 (k : Nat) (a1 : T1) : Nat → T2
  | 0 => fun _ _ _ _ => none
  | n2 + 1 => t2 (p4 k a1 (p2 k a1 n2) k) (p5 k a1)
theorem o2 (k n1 : Nat) (a1 : T1) (h1 : l1 k n1 = a1) : ∀ n2, l2 k n1 n2 = p2 k a1 n2 := by
  intro n2
  induction n2 with
  | zero => kernel_rfl
  | succ n2 ih => exact (Eq.trans (b := u2 k n1 (n2 + 1)) (g2 k n1 n2) (Eq.trans (b := t2 (l4 k n1 n2 k) (l5 k n1)) (e2 k n1 n2) (Eq.trans (b := t2 (p4 k a1 (p2 k a1 n2) k) (p5 k a1)) (d2 (o4 k n1 n2 a1 (p2 k a1 n2) h1 ih k) (o5 k n1 a1 h1)) (by kernel_rfl))))
def t3 : T3 := fun (x0 : List (List (Bool))) => 
  (some (x0, ()))
theorem e3 (k : Nat) : u3 k = t3 := by kernel_rfl
theorem g3 (k : Nat) : l3 k = u3 k := funext fun _ => cut_u _ _ _
def p3 (k : Nat) : T3 := t3
theorem o3 (k : Nat) : l3 k = p3 k := (Eq.trans (b := u3 k) (g3 k) (Eq.trans (b := t3) (e3 k) (by kernel_rfl)))
def t1 (f2 : T2) (f3 : T3) : T1 := fun (x0 : List (List (Bool))) (x3 x4 : Int) => 
  (iteB (decide (x4 < x3)) (f2 x0 x3 x4 (0 : Int)) (f3 x0))
theorem e1 (k n1 : Nat) : u1 k (n1 + 1) = t1 (l2 k n1 k) (l3 k) := by kernel_rfl
theorem g1 (k n1 : Nat) : l1 k (n1 + 1) = u1 k (n1 + 1) := funext fun _ => funext fun _ => funext fun _ => cut_u _ _ _
theorem d1 {x2 y2 : T2} {x3 y3 : T3} (h2 : x2 = y2) (h3 : x3 = y3) : t1 x2 x3 = t1 y2 y3 := by subst h2; subst h3; rfl
def p1 (k : Nat) : Nat → T1
  | 0 => fun _ _ _ => none
  | n1 + 1 => t1 (p2 k (p1 k n1) k) (p3 k)
theorem o1 (k : Nat) : ∀ n1, l1 k n1 = p1 k n1 := by
  intro n1
  induction n1 with
  | zero => kernel_rfl
  | succ n1 ih => exact (Eq.trans (b := u1 k (n1 + 1)) (g1 k n1) (Eq.trans (b := t1 (l2 k n1 k) (l3 k)) (e1 k n1) (Eq.trans (b := t1 (p2 k (p1 k n1) k) (p3 k)) (d1 (o2 k n1 (p1 k n1) ih k) (o3 k)) (by kernel_rfl))))
def t0 (f1 : T1) : T0 := fun (x0 : List (List (Bool))) => 
  (f1 x0 ((List.length x0 : Nat) : Int) (0 : Int))
theorem e0 (k : Nat) : u0 k = t0 (l1 k k) := by kernel_rfl
theorem d0 {x1 y1 : T1} (h1 : x1 = y1) : t0 x1 = t0 y1 := by subst h1; rfl
def p0 (k : Nat) : T0 := t0 (p1 k k)
theorem o0 (k : Nat) : u0 k = p0 k := (Eq.trans (b := t0 (l1 k k)) (e0 k) (Eq.trans (b := t0 (p1 k k)) (d0 (o1 k k)) (by kernel_rfl)))
end ref11_closed
def s_ref11_closed (a : (List (List (Bool))) × (Unit)) : Option ((List (List (Bool))) × (Unit)) := ref11_closed.p0 (fuel) a.1
noncomputable def F_ref11_closed : FSpec cx.toNm := { ps := [.own (.slice 76 (.slice 4 .bool)) (.own (.own .ro))], nres := 1, rt := (.slice 76 (.slice 4 .bool)), rm := (.own (.own .ro)), f := s_ref11_closed }
theorem w_ref11_closed (a : (List (List (Bool))) × (Unit)) : runOf (S := cx) ref11_closed.E ref11_closed.h (fuel) Try.f51 F_ref11_closed.ps F_ref11_closed.rt F_ref11_closed.rm a = s_ref11_closed a := Eq.trans (b := ref11_closed.u0 (fuel) a.1) (by kernel_rfl) (Eq.trans (b := ref11_closed.p0 (fuel) a.1) (congrFun (ref11_closed.o0 (fuel)) a.1) (by kernel_rfl))
theorem ok_ref11_closed : FnOk Try.prog F_ref11_closed 51 := fn_of (F := F_ref11_closed) (hn := ref11_closed.h) (E := ref11_closed.E) cxOk (tysT _ _ _) fs_nil follows Try.func51 (by kernel_rfl) (fun a r h => ⟨fuel, Eq.trans (w_ref11_closed a) h⟩)
namespace ref11_Useful
noncomputable def E : Env cx := { tys := tys, fs := fsOf [(49, F_ref11_Empty), (50, F_ref11_square), (51, F_ref11_closed)] }
abbrev R := Option ((Bool) × (Unit))
abbrev C := Exit → ST cx → R
noncomputable def b : Code := bodyC Try.f33
noncomputable def h : Hint := { vs := [0, 1, 2, 3, 4, 5, 6, 7], nil := [(4, (.own (.own .ro)))], cuts := [(4, ([1, 3, 4, 5], [1]), ([1, 3, 4], [1])), (5, ([1, 3, 4, 5], [1]), ([1, 3, 4, 5], [1])), (7, ([1, 3, 4, 5, 6], [1]), ([1, 3, 4, 5], [1])), (10, ([1, 3, 4], [1]), ([1, 3, 4], [1])), (12, ([1, 3, 4, 7], [1]), ([], [])), (13, ([1, 3, 4, 7], [1]), ([1, 3, 4, 7], [1])), (15, ([1, 3, 4, 7, 84], [1]), ([1, 3, 4, 7], [1])), (16, ([], []), ([], []))], ret := ([2], [1]), ords := [] }
noncomputable def K0 : C := fin (S := cx) E Try.f33.results.toList .bool .ro [] []
noncomputable def c0 : Code := subC b [1]
noncomputable def K1 (k : Nat) : C := outD h c0 K0
noncomputable def K2 (k : Nat) : C := seqC E h k c0 K0
noncomputable def c1 : Code := subC b [1, 1]
noncomputable def K3 (k : Nat) : C := outD h c1 (K1 k)
noncomputable def K4 (k : Nat) : C := seqC E h k c1 (K1 k)
noncomputable def c2 : Code := subC b [1, 1, 1]
noncomputable def K5 (k : Nat) : C := outD h c2 (K3 k)
noncomputable def K6 (k : Nat) : C := seqC E h k c2 (K3 k)
noncomputable def c3 : Code := subC b [1, 1, 1, 1]
noncomputable def K7 (k : Nat) : C := outD h c3 (K5 k)
noncomputable def K8 (k : Nat) : C := seqC E h k c3 (K5 k)
noncomputable def c4 : Code := subC b [1, 1, 1, 0, 1]
noncomputable def K9 (k : Nat) : C := outD h c4 (K8 k)
noncomputable def K10 (k : Nat) : C := seqC E h k c4 (K8 k)
noncomputable def K11 (k : Nat) : C := blockK 0 (K9 k)
noncomputable def c5 : Code := subC b [1, 1, 1, 0, 1, 0, 0]
noncomputable def K12 (k n1 : Nat) : C := loopD E h k c5 (K11 k) n1
noncomputable def c6 : Code := subC b [1, 1, 1, 0, 1, 0, 0, 1]
noncomputable def K13 (k n1 : Nat) : C := outD h c6 (K12 k n1)
noncomputable def K14 (k n1 : Nat) : C := seqC E h k c6 (K12 k n1)
noncomputable def c7 : Code := subC b [1, 1, 1, 0, 1, 0, 0, 0, 1]
noncomputable def K15 (k n1 : Nat) : C := outD h c7 (K14 k n1)
noncomputable def K16 (k n1 : Nat) : C := seqC E h k c7 (K14 k n1)
noncomputable def c8 : Code := subC b [1, 1, 1, 0, 1, 0, 0, 1, 1]
noncomputable def K17 (k n1 : Nat) : C := outD h c8 (K13 k n1)
noncomputable def K18 (k n1 : Nat) : C := seqC E h k c8 (K13 k n1)
noncomputable def K19 (k n1 : Nat) : C := blockK 1 (K18 k n1)
noncomputable def c9 : Code := subC b [1, 1, 1, 0, 1, 0, 0, 1, 0, 0, 1]
noncomputable def K20 (k n1 : Nat) : C := outD h c9 (K19 k n1)
noncomputable def K21 (k n1 : Nat) : C := seqC E h k c9 (K19 k n1)
noncomputable def K22 (k n1 : Nat) : C := blockK 2 (K20 k n1)
noncomputable def c10 : Code := subC b [1, 1, 1, 0, 1, 0, 0, 1, 0, 0, 1, 0, 0]
noncomputable def K23 (k n1 n2 : Nat) : C := loopD E h k c10 (K22 k n1) n2
noncomputable def c11 : Code := subC b [1, 1, 1, 0, 1, 0, 0, 1, 0, 0, 1, 0, 0, 1]
noncomputable def K24 (k n1 n2 : Nat) : C := outD h c11 (K23 k n1 n2)
noncomputable def K25 (k n1 n2 : Nat) : C := seqC E h k c11 (K23 k n1 n2)
noncomputable def c12 : Code := subC b [1, 1, 1, 0, 1, 0, 0, 1, 0, 0, 1, 0, 0, 0, 1]
noncomputable def K26 (k n1 n2 : Nat) : C := outD h c12 (K25 k n1 n2)
noncomputable def K27 (k n1 n2 : Nat) : C := seqC E h k c12 (K25 k n1 n2)
noncomputable def c13 : Code := subC b [1, 1, 1, 0, 1, 0, 0, 1, 0, 0, 1, 0, 0, 1, 1]
noncomputable def K28 (k n1 n2 : Nat) : C := outD h c13 (K24 k n1 n2)
noncomputable def K29 (k n1 n2 : Nat) : C := seqC E h k c13 (K24 k n1 n2)
noncomputable def K30 (k n1 n2 : Nat) : C := blockK 3 (K29 k n1 n2)
noncomputable def c14 : Code := subC b [1, 1, 1, 1, 1]
noncomputable def K31 (k : Nat) : C := outD h c14 (K7 k)
noncomputable def K32 (k : Nat) : C := seqC E h k c14 (K7 k)
noncomputable def c15 : Code := subC b [1, 1, 1, 1, 1, 1]
noncomputable def K33 (k : Nat) : C := outD h c15 (K31 k)
noncomputable def K34 (k : Nat) : C := seqC E h k c15 (K31 k)
noncomputable def c16 : Code := subC b [1, 1, 1, 1, 1, 0, 1]
noncomputable def K35 (k : Nat) : C := outD h c16 (K34 k)
noncomputable def K36 (k : Nat) : C := seqC E h k c16 (K34 k)
noncomputable def K37 (k : Nat) : C := blockK 4 (K35 k)
noncomputable def c17 : Code := subC b [1, 1, 1, 1, 1, 0, 1, 0, 0]
noncomputable def K38 (k n5 : Nat) : C := loopD E h k c17 (K37 k) n5
noncomputable def c18 : Code := subC b [1, 1, 1, 1, 1, 0, 1, 0, 0, 1]
noncomputable def K39 (k n5 : Nat) : C := outD h c18 (K38 k n5)
noncomputable def K40 (k n5 : Nat) : C := seqC E h k c18 (K38 k n5)
noncomputable def c19 : Code := subC b [1, 1, 1, 1, 1, 0, 1, 0, 0, 0, 1]
noncomputable def K41 (k n5 : Nat) : C := outD h c19 (K40 k n5)
noncomputable def K42 (k n5 : Nat) : C := seqC E h k c19 (K40 k n5)
noncomputable def c20 : Code := subC b [1, 1, 1, 1, 1, 0, 1, 0, 0, 1, 1]
noncomputable def K43 (k n5 : Nat) : C := outD h c20 (K39 k n5)
noncomputable def K44 (k n5 : Nat) : C := seqC E h k c20 (K39 k n5)
noncomputable def K45 (k n5 : Nat) : C := blockK 5 (K44 k n5)
noncomputable def c21 : Code := subC b [1, 1, 1, 1, 1, 0, 1, 0, 0, 1, 0, 0, 1]
noncomputable def K46 (k n5 : Nat) : C := outD h c21 (K45 k n5)
noncomputable def K47 (k n5 : Nat) : C := seqC E h k c21 (K45 k n5)
noncomputable def c22 : Code := subC b [1, 1, 1, 1, 1, 0, 1, 0, 0, 1, 0, 0, 1, 0, 1]
noncomputable def K48 (k n5 : Nat) : C := outD h c22 (K46 k n5)
noncomputable def K49 (k n5 : Nat) : C := seqC E h k c22 (K46 k n5)
noncomputable def c23 : Code := subC b [1, 1, 1, 1, 1, 1, 1]
noncomputable def K50 (k : Nat) : C := outD h c23 (K33 k)
noncomputable def K51 (k : Nat) : C := seqC E h k c23 (K33 k)
abbrev T4 := (List (Bool)) → (List (List (Bool))) → Int → D0 → R
abbrev T2 := (List (Bool)) → (List (List (Bool))) → Int → Int → D0 → R
abbrev T8 := (List (Bool)) → (List (List (Bool))) → Int → D0 → R
abbrev T6 := (List (Bool)) → (List (List (Bool))) → Int → Bool → D0 → R
abbrev T7 := R
abbrev T5 := (List (Bool)) → (List (List (Bool))) → Int → D0 → R
abbrev T3 := (List (Bool)) → (List (List (Bool))) → D0 → R
abbrev T1 := (List (Bool)) → (List (List (Bool))) → Int → D0 → R
abbrev T0 := D0 → R
abbrev s4 : (List (Bool)) → (List (List (Bool))) → Int → D0 → ST cx := fun (x3 : List (Bool)) (x4 : List (List (Bool))) (x5 : Int) (m1 : D0) => ({ vars := [(1, .addr (.mem 1) []), (3, .v (.slice 4 .bool) .ro x3), (4, .v (.slice 76 (.slice 4 .bool)) (.own (.own .ro)) x4), (5, .v (.int .i64) .ro x5)], scr := [], mems := [(1, ⟨ty0, .ro, m1⟩)] } : ST cx)
noncomputable def u4 (k n1 : Nat) : T4 := fun (x3 : List (Bool)) (x4 : List (List (Bool))) (x5 : Int) (m1 : D0) => uK (run E h k c8) (s4 x3 x4 x5 m1) (K17 k n1)
noncomputable abbrev l4 (k n1 : Nat) : T4 := fun (x3 : List (Bool)) (x4 : List (List (Bool))) (x5 : Int) (m1 : D0) => cutK (run E h k c8) (s4 x3 x4 x5 m1) (K17 k n1)
abbrev s2 : (List (Bool)) → (List (List (Bool))) → Int → Int → D0 → ST cx := fun (x3 : List (Bool)) (x4 : List (List (Bool))) (x5 x6 : Int) (m1 : D0) => ({ vars := [(1, .addr (.mem 1) []), (3, .v (.slice 4 .bool) .ro x3), (4, .v (.slice 76 (.slice 4 .bool)) (.own (.own .ro)) x4), (5, .v (.int .i64) .ro x5), (6, .v (.int .i64) .ro x6)], scr := [], mems := [(1, ⟨ty0, .ro, m1⟩)] } : ST cx)
noncomputable def u2 (k n1 n2 : Nat) : T2 := fun (x3 : List (Bool)) (x4 : List (List (Bool))) (x5 x6 : Int) (m1 : D0) => uK (loopL E h k c10 (K22 k n1) n2) (s2 x3 x4 x5 x6 m1) ()
noncomputable abbrev l2 (k n1 n2 : Nat) : T2 := fun (x3 : List (Bool)) (x4 : List (List (Bool))) (x5 x6 : Int) (m1 : D0) => cutK (loopL E h k c10 (K22 k n1) n2) (s2 x3 x4 x5 x6 m1) ()
abbrev s8 : (List (Bool)) → (List (List (Bool))) → Int → D0 → ST cx := fun (x3 : List (Bool)) (x4 : List (List (Bool))) (x7 : Int) (m1 : D0) => ({ vars := [(1, .addr (.mem 1) []), (3, .v (.slice 4 .bool) .ro x3), (4, .v (.slice 76 (.slice 4 .bool)) (.own (.own .ro)) x4), (7, .v (.int .i64) .ro x7)], scr := [], mems := [(1, ⟨ty0, .ro, m1⟩)] } : ST cx)
noncomputable def u8 (k n5 : Nat) : T8 := fun (x3 : List (Bool)) (x4 : List (List (Bool))) (x7 : Int) (m1 : D0) => uK (run E h k c20) (s8 x3 x4 x7 m1) (K43 k n5)
noncomputable abbrev l8 (k n5 : Nat) : T8 := fun (x3 : List (Bool)) (x4 : List (List (Bool))) (x7 : Int) (m1 : D0) => cutK (run E h k c20) (s8 x3 x4 x7 m1) (K43 k n5)
abbrev s6 : (List (Bool)) → (List (List (Bool))) → Int → Bool → D0 → ST cx := fun (x3 : List (Bool)) (x4 : List (List (Bool))) (x7 : Int) (x84 : Bool) (m1 : D0) => ({ vars := [(1, .addr (.mem 1) []), (3, .v (.slice 4 .bool) .ro x3), (4, .v (.slice 76 (.slice 4 .bool)) (.own (.own .ro)) x4), (7, .v (.int .i64) .ro x7), (84, .v .bool .ro x84)], scr := [], mems := [(1, ⟨ty0, .ro, m1⟩)] } : ST cx)
noncomputable def u6 (k n5 : Nat) : T6 := fun (x3 : List (Bool)) (x4 : List (List (Bool))) (x7 : Int) (x84 : Bool) (m1 : D0) => uK (run E h k c21) (s6 x3 x4 x7 x84 m1) (K46 k n5)
noncomputable abbrev l6 (k n5 : Nat) : T6 := fun (x3 : List (Bool)) (x4 : List (List (Bool))) (x7 : Int) (x84 : Bool) (m1 : D0) => cutK (run E h k c21) (s6 x3 x4 x7 x84 m1) (K46 k n5)
abbrev s7 : ST cx := ({ vars := [], scr := [], mems := [] } : ST cx)
noncomputable def u7 (k : Nat) : T7 := uK (run E h k c15) s7 (K33 k)
noncomputable abbrev l7 (k : Nat) : T7 := cutK (run E h k c15) s7 (K33 k)
abbrev s5 : (List (Bool)) → (List (List (Bool))) → Int → D0 → ST cx := fun (x3 : List (Bool)) (x4 : List (List (Bool))) (x7 : Int) (m1 : D0) => ({ vars := [(1, .addr (.mem 1) []), (3, .v (.slice 4 .bool) .ro x3), (4, .v (.slice 76 (.slice 4 .bool)) (.own (.own .ro)) x4), (7, .v (.int .i64) .ro x7)], scr := [], mems := [(1, ⟨ty0, .ro, m1⟩)] } : ST cx)
noncomputable def u5 (k n5 : Nat) : T5 := fun (x3 : List (Bool)) (x4 : List (List (Bool))) (x7 : Int) (m1 : D0) => uK (loopL E h k c17 (K37 k) n5) (s5 x3 x4 x7 m1) ()
noncomputable abbrev l5 (k n5 : Nat) : T5 := fun (x3 : List (Bool)) (x4 : List (List (Bool))) (x7 : Int) (m1 : D0) => cutK (loopL E h k c17 (K37 k) n5) (s5 x3 x4 x7 m1) ()
abbrev s3 : (List (Bool)) → (List (List (Bool))) → D0 → ST cx := fun (x3 : List (Bool)) (x4 : List (List (Bool))) (m1 : D0) => ({ vars := [(1, .addr (.mem 1) []), (3, .v (.slice 4 .bool) .ro x3), (4, .v (.slice 76 (.slice 4 .bool)) (.own (.own .ro)) x4)], scr := [], mems := [(1, ⟨ty0, .ro, m1⟩)] } : ST cx)
noncomputable def u3 (k : Nat) : T3 := fun (x3 : List (Bool)) (x4 : List (List (Bool))) (m1 : D0) => uK (run E h k c3) (s3 x3 x4 m1) (K7 k)
noncomputable abbrev l3 (k : Nat) : T3 := fun (x3 : List (Bool)) (x4 : List (List (Bool))) (m1 : D0) => cutK (run E h k c3) (s3 x3 x4 m1) (K7 k)
abbrev s1 : (List (Bool)) → (List (List (Bool))) → Int → D0 → ST cx := fun (x3 : List (Bool)) (x4 : List (List (Bool))) (x5 : Int) (m1 : D0) => ({ vars := [(1, .addr (.mem 1) []), (3, .v (.slice 4 .bool) .ro x3), (4, .v (.slice 76 (.slice 4 .bool)) (.own (.own .ro)) x4), (5, .v (.int .i64) .ro x5)], scr := [], mems := [(1, ⟨ty0, .ro, m1⟩)] } : ST cx)
noncomputable def u1 (k n1 : Nat) : T1 := fun (x3 : List (Bool)) (x4 : List (List (Bool))) (x5 : Int) (m1 : D0) => uK (loopL E h k c5 (K11 k) n1) (s1 x3 x4 x5 m1) ()
noncomputable abbrev l1 (k n1 : Nat) : T1 := fun (x3 : List (Bool)) (x4 : List (List (Bool))) (x5 : Int) (m1 : D0) => cutK (loopL E h k c5 (K11 k) n1) (s1 x3 x4 x5 m1) ()
noncomputable def u0 (k : Nat) : T0 := fun (x0 : D0) => runOf (S := cx) E h k Try.f33 [.val ty0] .bool .ro (x0, ())
def t4 (f1 : T1) : T4 := fun (x3 : List (Bool)) (x4 : List (List (Bool))) (x5 : Int) (m1 : D0) => 
  (f1 x3 x4 (w64 (x5 + (1 : Int))) m1)
theorem e4 (k n1 : Nat) : u4 k n1 = t4 (l1 k n1) := by kernel_rfl
theorem g4 (k n1 : Nat) : l4 k n1 = u4 k n1 := funext fun _ => funext fun _ => funext fun _ => funext fun _ => cut_u _ _ _
theorem d4 {x1 y1 : T1} (h1 : x1 = y1) : t4 x1 = t4 y1 := by subst h1; rfl
def p4 (k : Nat) (a1 : T1) : T4 := t4 a1
theorem o4 (k n1 : Nat) (a1 : T1) (h1 : l1 k n1 = a1) : l4 k n1 = p4 k a1 := (Eq.trans (b := u4 k n1) (g4 k n1) (Eq.trans (b := t4 (l1 k n1)) (e4 k n1) (Eq.trans (b := t4 a1) (d4 h1) (by kernel_rfl))))
def t2 (f2 : T2) (f4 : T4) : T2 := fun (x3 : List (Bool)) (x4 : List (List (Bool))) (x5 x6 : Int) (m1 : D0) => 
  (withinR x5 (List.length m1.2.2.2.1) fun q3 => (iteB (decide (x6 < ((List.length (List.getD m1.2.2.2.1 q3 ((0 : Int), ([] : List (Int)))).2 : Nat) : Int))) (withinR x5 (List.length m1.2.2.2.1) fun q4 => (withinR ((List.getD m1.2.2.2.1 q4 ((0 : Int), ([] : List (Int)))).1) (List.length x4) fun q5 => (withinR x5 (List.length m1.2.2.2.1) fun q6 => (withinR x6 (List.length (List.getD m1.2.2.2.1 q6 ((0 : Int), ([] : List (Int)))).2) fun q7 => (withinR (List.getD (List.getD m1.2.2.2.1 q6 ((0 : Int), ([] : List (Int)))).2 q7 (0 : Int)) (List.length (List.getD x4 q5 ([] : List (Bool)))) fun q8 => (f2 x3 (List.set x4 q5 (List.set (List.getD x4 q5 ([] : List (Bool))) q8 true)) x5 (w64 (x6 + (1 : Int))) m1)))))) (f4 x3 x4 x5 m1)))
theorem e2 (k n1 n2 : Nat) : u2 k n1 (n2 + 1) = t2 (l2 k n1 n2) (l4 k n1) := by kernel_rfl
theorem g2 (k n1 n2 : Nat) : l2 k n1 (n2 + 1) = u2 k n1 (n2 + 1) := funext fun _ => funext fun _ => funext fun _ => funext fun _ => funext fun _ => cut_u _ _ _
theorem d2 {x2 y2 : T2} {x4 y4 : T4} (h2 : x2 = y2) (h4 : x4 = y4) : t2 x2 x4 = t2 y2 y4 := by subst h2; subst h4; rfl
def p2 (k : Nat) (a1 : T1) : Nat → T2
  | 0 => fun _ _ _ _ _ => none
  | n2 + 1 => t2 (p2 k a1 n2) (p4 k a1)
theorem o2 (k n1 : Nat) (a1 : T1) (h1 : l1 k n1 = a1) : ∀ n2, l2 k n1 n2 = p2 k a1 n2 := by
  intro n2
  induction n2 with
  | zero => kernel_rfl
  | succ n2 ih => exact (Eq.trans (b := u2 k n1 (n2 + 1)) (g2 k n1 n2) (Eq.trans (b := t2 (l2 k n1 n2) (l4 k n1)) (e2 k n1 n2) (Eq.trans (b := t2 (p2 k a1 n2) (p4 k a1)) (d2 ih (o4 k n1 a1 h1)) (by kernel_rfl))))
def t8 (f5 : T5) : T8 := fun (x3 : List (Bool)) (x4 : List (List (Bool))) (x7 : Int) (m1 : D0) => 
  (f5 x3 x4 (w64 (x7 + (1 : Int))) m1)
theorem e8 (k n5 : Nat) : u8 k n5 = t8 (l5 k n5) := by kernel_rfl
theorem g8 (k n5 : Nat) : l8 k n5 = u8 k n5 := funext fun _ => funext fun _ => funext fun _ => funext fun _ => cut_u _ _ _
theorem d8 {x5 y5 : T5} (h5 : x5 = y5) : t8 x5 = t8 y5 := by subst h5; rfl
def p8 (k : Nat) (a5 : T5) : T8 := t8 a5
theorem o8 (k n5 : Nat) (a5 : T5) (h5 : l5 k n5 = a5) : l8 k n5 = p8 k a5 := (Eq.trans (b := u8 k n5) (g8 k n5) (Eq.trans (b := t8 (l5 k n5)) (e8 k n5) (Eq.trans (b := t8 a5) (d8 h5) (by kernel_rfl))))
def t6 (f8 : T8) : T6 := fun (x3 : List (Bool)) (x4 : List (List (Bool))) (x7 : Int) (x84 : Bool) (m1 : D0) => 
  (iteB x84 (some (false, ())) (f8 x3 x4 x7 m1))
theorem e6 (k n5 : Nat) : u6 k n5 = t6 (l8 k n5) := by kernel_rfl
theorem g6 (k n5 : Nat) : l6 k n5 = u6 k n5 := funext fun _ => funext fun _ => funext fun _ => funext fun _ => funext fun _ => cut_u _ _ _
theorem d6 {x8 y8 : T8} (h8 : x8 = y8) : t6 x8 = t6 y8 := by subst h8; rfl
def p6 (k : Nat) (a5 : T5) : T6 := t6 (p8 k a5)
theorem o6 (k n5 : Nat) (a5 : T5) (h5 : l5 k n5 = a5) : l6 k n5 = p6 k a5 := (Eq.trans (b := u6 k n5) (g6 k n5) (Eq.trans (b := t6 (l8 k n5)) (e6 k n5) (Eq.trans (b := t6 (p8 k a5)) (d6 (o8 k n5 a5 h5)) (by kernel_rfl))))
def t7 : T7 := 
  (some (true, ()))
theorem e7 (k : Nat) : u7 k = t7 := by kernel_rfl
theorem g7 (k : Nat) : l7 k = u7 k := cut_u _ _ _
def p7 (k : Nat) : T7 := t7
theorem o7 (k : Nat) : l7 k = p7 k := (Eq.trans (b := u7 k) (g7 k) (Eq.trans (b := t7) (e7 k) (by kernel_rfl)))
def t5 (f6 : T6) (f7 : T7) : T5 := fun (x3 : List (Bool)) (x4 : List (List (Bool))) (x7 : Int) (m1 : D0) => 
  (iteB (decide (x7 < ((List.length m1.1 : Nat) : Int))) (withinR x7 (List.length x3) fun q10 => (iteB (notB (List.getD x3 q10 false)) (f6 x3 x4 x7 true m1) (iteB (!decide (x7 = m1.2.2.1)) (withinR m1.2.2.1 (List.length x4) fun q11 => (withinR x7 (List.length (List.getD x4 q11 ([] : List (Bool)))) fun q12 => (f6 x3 x4 x7 (notB (List.getD (List.getD x4 q11 ([] : List (Bool))) q12 false)) m1))) (f6 x3 x4 x7 false m1)))) f7)
theorem e5 (k n5 : Nat) : u5 k (n5 + 1) = t5 (l6 k n5) (l7 k) := by kernel_rfl
theorem g5 (k n5 : Nat) : l5 k (n5 + 1) = u5 k (n5 + 1) := funext fun _ => funext fun _ => funext fun _ => funext fun _ => cut_u _ _ _
theorem d5 {x6 y6 : T6} {x7 y7 : T7} (h6 : x6 = y6) (h7 : x7 = y7) : t5 x6 x7 = t5 y6 y7 := by subst h6; subst h7; rfl
def p5 (k : Nat) : Nat → T5
  | 0 => fun _ _ _ _ => none
  | n5 + 1 => t5 (p6 k (p5 k n5)) (p7 k)
theorem o5 (k : Nat) : ∀ n5, l5 k n5 = p5 k n5 := by
  intro n5
  induction n5 with
  | zero => kernel_rfl
  | succ n5 ih => exact (Eq.trans (b := u5 k (n5 + 1)) (g5 k n5) (Eq.trans (b := t5 (l6 k n5) (l7 k)) (e5 k n5) (Eq.trans (b := t5 (p6 k (p5 k n5)) (p7 k)) (d5 (o6 k n5 (p5 k n5) ih) (o7 k)) (by kernel_rfl))))
def t3 (f5 : T5) : T3 := fun (x3 : List (Bool)) (x4 : List (List (Bool))) (m1 : D0) => 
  (bindR (s_ref11_closed (x4, ())) fun r9 => (f5 x3 r9.1 (w64 (m1.2.1 + (1 : Int))) m1))
theorem e3 (k : Nat) : u3 k = t3 (l5 k k) := by kernel_rfl
theorem g3 (k : Nat) : l3 k = u3 k := funext fun _ => funext fun _ => funext fun _ => cut_u _ _ _
theorem d3 {x5 y5 : T5} (h5 : x5 = y5) : t3 x5 = t3 y5 := by subst h5; rfl
def p3 (k : Nat) : T3 := t3 (p5 k k)
theorem o3 (k : Nat) : l3 k = p3 k := (Eq.trans (b := u3 k) (g3 k) (Eq.trans (b := t3 (l5 k k)) (e3 k) (Eq.trans (b := t3 (p5 k k)) (d3 (o5 k k)) (by kernel_rfl))))
def t1 (f2 : T2) (f3 : T3) : T1 := fun (x3 : List (Bool)) (x4 : List (List (Bool))) (x5 : Int) (m1 : D0) => 
  (iteB (decide (x5 < ((List.length m1.2.2.2.1 : Nat) : Int))) (f2 x3 x4 x5 (0 : Int) m1) (f3 x3 x4 m1))
theorem e1 (k n1 : Nat) : u1 k (n1 + 1) = t1 (l2 k n1 k) (l3 k) := by kernel_rfl
theorem g1 (k n1 : Nat) : l1 k (n1 + 1) = u1 k (n1 + 1) := funext fun _ => funext fun _ => funext fun _ => funext fun _ => cut_u _ _ _
theorem d1 {x2 y2 : T2} {x3 y3 : T3} (h2 : x2 = y2) (h3 : x3 = y3) : t1 x2 x3 = t1 y2 y3 := by subst h2; subst h3; rfl
def p1 (k : Nat) : Nat → T1
  | 0 => fun _ _ _ _ => none
  | n1 + 1 => t1 (p2 k (p1 k n1) k) (p3 k)
theorem o1 (k : Nat) : ∀ n1, l1 k n1 = p1 k n1 := by
  intro n1
  induction n1 with
  | zero => kernel_rfl
  | succ n1 ih => exact (Eq.trans (b := u1 k (n1 + 1)) (g1 k n1) (Eq.trans (b := t1 (l2 k n1 k) (l3 k)) (e1 k n1) (Eq.trans (b := t1 (p2 k (p1 k n1) k) (p3 k)) (d1 (o2 k n1 (p1 k n1) ih k) (o3 k)) (by kernel_rfl))))
def t0 (f1 : T1) : T0 := fun (x0 : D0) => 
  (bindR (s_ref11_Empty (x0, (true, ()))) fun r1 => (bindR (s_ref11_square (((List.length x0.1 : Nat) : Int), ())) fun r2 => (f1 r1.1 r2.1 (0 : Int) x0)))
theorem e0 (k : Nat) : u0 k = t0 (l1 k k) := by kernel_rfl
theorem d0 {x1 y1 : T1} (h1 : x1 = y1) : t0 x1 = t0 y1 := by subst h1; rfl
def p0 (k : Nat) : T0 := t0 (p1 k k)
theorem o0 (k : Nat) : u0 k = p0 k := (Eq.trans (b := t0 (l1 k k)) (e0 k) (Eq.trans (b := t0 (p1 k k)) (d0 (o1 k k)) (by kernel_rfl)))
end ref11_Useful
def s_ref11_Useful (a : (D0) × (Unit)) : Option ((Bool) × (Unit)) := ref11_Useful.p0 (fuel) a.1
noncomputable def F_ref11_Useful : FSpec cx.toNm := { ps := [.val ty0], nres := 1, rt := .bool, rm := .ro, f := s_ref11_Useful }
theorem w_ref11_Useful (a : (D0) × (Unit)) : runOf (S := cx) ref11_Useful.E ref11_Useful.h (fuel) Try.f33 F_ref11_Useful.ps F_ref11_Useful.rt F_ref11_Useful.rm a = s_ref11_Useful a := Eq.trans (b := ref11_Useful.u0 (fuel) a.1) (by kernel_rfl) (Eq.trans (b := ref11_Useful.p0 (fuel) a.1) (congrFun (ref11_Useful.o0 (fuel)) a.1) (by kernel_rfl))
theorem ok_ref11_Useful : FnOk Try.prog F_ref11_Useful 33 := fn_of (F := F_ref11_Useful) (hn := ref11_Useful.h) (E := ref11_Useful.E) cxOk (tysT _ _ _) (fs_cons ok_ref11_Empty (fs_cons ok_ref11_square (fs_cons ok_ref11_closed fs_nil))) follows Try.func33 (by kernel_rfl) (fun a r h => ⟨fuel, Eq.trans (w_ref11_Useful a) h⟩)
namespace ref11_rule
noncomputable def E : Env cx := { tys := tys, fs := fsOf [] }
abbrev R := Option (((Int) × (Int)) × (Unit))
abbrev C := Exit → ST cx → R
noncomputable def b : Code := bodyC Try.f73
noncomputable def h : Hint := { vs := [0, 1, 2, 3, 6, 7, 8, 9, 10, 11, 12], nil := [], cuts := [(3, ([1, 2, 3, 8, 9, 10], [3]), ([8, 9], [])), (4, ([1, 2, 3, 8, 9, 10], [3]), ([1, 2, 3, 8, 9, 10], [3])), (9, ([1, 2, 3, 8, 9, 10, 11, 12], [3]), ([1, 2, 3, 8, 9, 10, 11], [3])), (11, ([1, 2, 3, 8, 9, 10, 12], [3]), ([1, 2, 3, 8, 9, 10, 11, 12], [3])), (12, ([1, 2, 3, 8, 9, 10, 11], [3]), ([1, 2, 3, 8, 9, 10], [3])), (13, ([1, 2, 3, 8, 9, 10, 67], [3]), ([1, 2, 3, 8, 9, 10], [3])), (14, ([8, 9], []), ([8, 9], [])), (1000002, ([1, 2, 3, 8, 9, 10, 11, 12, 46], [3]), ([1, 2, 3, 8, 9, 10, 12], [3]))], ret := ([6, 7], [3]), ords := [] }
noncomputable def K0 : C := fin (S := cx) E Try.f73.results.toList (.pair (.int .i64) (.int .i64)) .ro [] []
noncomputable def c0 : Code := subC b [1]
noncomputable def K1 (k : Nat) : C := outD h c0 K0
noncomputable def K2 (k : Nat) : C := seqC E h k c0 K0
noncomputable def c1 : Code := subC b [1, 1]
noncomputable def K3 (k : Nat) : C := outD h c1 (K1 k)
noncomputable def K4 (k : Nat) : C := seqC E h k c1 (K1 k)
noncomputable def c2 : Code := subC b [1, 1, 1]
noncomputable def K5 (k : Nat) : C := outD h c2 (K3 k)
noncomputable def K6 (k : Nat) : C := seqC E h k c2 (K3 k)
noncomputable def c3 : Code := subC b [1, 1, 0, 1]
noncomputable def K7 (k : Nat) : C := outD h c3 (K6 k)
noncomputable def K8 (k : Nat) : C := seqC E h k c3 (K6 k)
noncomputable def K9 (k : Nat) : C := blockK 0 (K7 k)
noncomputable def c4 : Code := subC b [1, 1, 0, 1, 0, 0]
noncomputable def K10 (k n1 : Nat) : C := loopD E h k c4 (K9 k) n1
noncomputable def c5 : Code := subC b [1, 1, 0, 1, 0, 0, 1]
noncomputable def K11 (k n1 : Nat) : C := outD h c5 (K10 k n1)
noncomputable def K12 (k n1 : Nat) : C := seqC E h k c5 (K10 k n1)
noncomputable def c6 : Code := subC b [1, 1, 0, 1, 0, 0, 0, 1]
noncomputable def K13 (k n1 : Nat) : C := outD h c6 (K12 k n1)
noncomputable def K14 (k n1 : Nat) : C := seqC E h k c6 (K12 k n1)
noncomputable def c7 : Code := subC b [1, 1, 0, 1, 0, 0, 1, 1]
noncomputable def K15 (k n1 : Nat) : C := outD h c7 (K11 k n1)
noncomputable def K16 (k n1 : Nat) : C := seqC E h k c7 (K11 k n1)
noncomputable def K17 (k n1 : Nat) : C := blockK 1 (K16 k n1)
noncomputable def c8 : Code := subC b [1, 1, 0, 1, 0, 0, 1, 0, 0, 1]
noncomputable def K18 (k n1 : Nat) : C := outD h c8 (K17 k n1)
noncomputable def K19 (k n1 : Nat) : C := seqC E h k c8 (K17 k n1)
noncomputable def c9 : Code := subC b [1, 1, 0, 1, 0, 0, 1, 0, 0, 0, 1]
noncomputable def K20 (k n1 : Nat) : C := outD h c9 (K19 k n1)
noncomputable def K21 (k n1 : Nat) : C := seqC E h k c9 (K19 k n1)
noncomputable def c10 : Code := subC b [1, 1, 0, 1, 0, 0, 1, 0, 0, 1, 1]
noncomputable def K22 (k n1 : Nat) : C := outD h c10 (K18 k n1)
noncomputable def K23 (k n1 : Nat) : C := seqC E h k c10 (K18 k n1)
noncomputable def c11 : Code := subC b [1, 1, 0, 1, 0, 0, 1, 0, 0, 1, 1, 1]
noncomputable def K24 (k n1 : Nat) : C := outD h c11 (K22 k n1)
noncomputable def K25 (k n1 : Nat) : C := seqC E h k c11 (K22 k n1)
noncomputable def c12 : Code := subC b [1, 1, 0, 1, 0, 0, 1, 0, 0, 1, 1, 1, 1]
noncomputable def K26 (k n1 : Nat) : C := outD h c12 (K24 k n1)
noncomputable def K27 (k n1 : Nat) : C := seqC E h k c12 (K24 k n1)
noncomputable def c13 : Code := subC b [1, 1, 0, 1, 0, 0, 1, 0, 0, 1, 1, 1, 0, 1]
noncomputable def K28 (k n1 : Nat) : C := outD h c13 (K27 k n1)
noncomputable def K29 (k n1 : Nat) : C := seqC E h k c13 (K27 k n1)
noncomputable def K30 (k n1 : Nat) : C := blockK 2 (K28 k n1)
noncomputable def c14 : Code := subC b [1, 1, 0, 1, 0, 0, 1, 0, 0, 1, 1, 1, 0, 1, 0, 0]
noncomputable def K31 (k n1 n3 : Nat) : C := loopD E h k c14 (K30 k n1) n3
noncomputable def c15 : Code := subC b [1, 1, 0, 1, 0, 0, 1, 0, 0, 1, 1, 1, 0, 1, 0, 0, 1]
noncomputable def K32 (k n1 n3 : Nat) : C := outD h c15 (K31 k n1 n3)
noncomputable def K33 (k n1 n3 : Nat) : C := seqC E h k c15 (K31 k n1 n3)
noncomputable def c16 : Code := subC b [1, 1, 0, 1, 0, 0, 1, 0, 0, 1, 1, 1, 0, 1, 0, 0, 0, 1]
noncomputable def K34 (k n1 n3 : Nat) : C := outD h c16 (K33 k n1 n3)
noncomputable def K35 (k n1 n3 : Nat) : C := seqC E h k c16 (K33 k n1 n3)
noncomputable def c17 : Code := subC b [1, 1, 0, 1, 0, 0, 1, 0, 0, 1, 1, 1, 0, 1, 0, 0, 1, 1]
noncomputable def K36 (k n1 n3 : Nat) : C := outD h c17 (K32 k n1 n3)
noncomputable def K37 (k n1 n3 : Nat) : C := seqC E h k c17 (K32 k n1 n3)
noncomputable def K38 (k n1 n3 : Nat) : C := blockK 3 (K37 k n1 n3)
noncomputable def c18 : Code := subC b [1, 1, 0, 1, 0, 0, 1, 0, 0, 1, 1, 1, 1, 1]
noncomputable def K39 (k n1 : Nat) : C := outD h c18 (K26 k n1)
noncomputable def K40 (k n1 : Nat) : C := seqC E h k c18 (K26 k n1)
noncomputable def c19 : Code := subC b [1, 1, 1, 1]
noncomputable def K41 (k : Nat) : C := outD h c19 (K5 k)
noncomputable def K42 (k : Nat) : C := seqC E h k c19 (K5 k)
abbrev T2 := Int → (List (Int)) → Int → Int → Int → D0 → R
abbrev T6 := Int → (List (Int)) → Int → Int → Int → Int → D0 → R
abbrev T8 := Int → (List (Int)) → Int → Int → Int → Bool → D0 → R
abbrev T7 := Int → (List (Int)) → Int → Int → Int → Bool → D0 → R
abbrev T5 := Int → (List (Int)) → Int → Int → Int → Bool → Int → Bool → D0 → R
abbrev T3 := Int → (List (Int)) → Int → Int → Int → Bool → Int → D0 → R
abbrev T4 := Int → Int → R
abbrev T1 := Int → (List (Int)) → Int → Int → Int → D0 → R
abbrev T0 := D0 → Int → (List (Int)) → R
abbrev s2 : Int → (List (Int)) → Int → Int → Int → D0 → ST cx := fun (x1 : Int) (x2 : List (Int)) (x8 x9 x10 : Int) (m3 : D0) => ({ vars := [(1, .v (.int .i64) .ro x1), (2, .v (.slice 3 (.int .i64)) .ro x2), (3, .addr (.mem 3) []), (8, .v (.int .i64) .ro x8), (9, .v (.int .i64) .ro x9), (10, .v (.int .i64) .ro x10)], scr := [], mems := [(3, ⟨ty0, .ro, m3⟩)] } : ST cx)
noncomputable def u2 (k n1 : Nat) : T2 := fun (x1 : Int) (x2 : List (Int)) (x8 x9 x10 : Int) (m3 : D0) => uK (run E h k c7) (s2 x1 x2 x8 x9 x10 m3) (K15 k n1)
noncomputable abbrev l2 (k n1 : Nat) : T2 := fun (x1 : Int) (x2 : List (Int)) (x8 x9 x10 : Int) (m3 : D0) => cutK (run E h k c7) (s2 x1 x2 x8 x9 x10 m3) (K15 k n1)
abbrev s6 : Int → (List (Int)) → Int → Int → Int → Int → D0 → ST cx := fun (x1 : Int) (x2 : List (Int)) (x8 x9 x10 x12 : Int) (m3 : D0) => ({ vars := [(1, .v (.int .i64) .ro x1), (2, .v (.slice 3 (.int .i64)) .ro x2), (3, .addr (.mem 3) []), (8, .v (.int .i64) .ro x8), (9, .v (.int .i64) .ro x9), (10, .v (.int .i64) .ro x10), (12, .v (.int .i64) .ro x12)], scr := [], mems := [(3, ⟨ty0, .ro, m3⟩)] } : ST cx)
noncomputable def u6 (k n1 n3 : Nat) : T6 := fun (x1 : Int) (x2 : List (Int)) (x8 x9 x10 x12 : Int) (m3 : D0) => uK (run E h k c15) (s6 x1 x2 x8 x9 x10 x12 m3) (K32 k n1 n3)
noncomputable abbrev l6 (k n1 n3 : Nat) : T6 := fun (x1 : Int) (x2 : List (Int)) (x8 x9 x10 x12 : Int) (m3 : D0) => cutK (run E h k c15) (s6 x1 x2 x8 x9 x10 x12 m3) (K32 k n1 n3)
abbrev s8 : Int → (List (Int)) → Int → Int → Int → Bool → D0 → ST cx := fun (x1 : Int) (x2 : List (Int)) (x8 x9 x10 : Int) (x67 : Bool) (m3 : D0) => ({ vars := [(1, .v (.int .i64) .ro x1), (2, .v (.slice 3 (.int .i64)) .ro x2), (3, .addr (.mem 3) []), (8, .v (.int .i64) .ro x8), (9, .v (.int .i64) .ro x9), (10, .v (.int .i64) .ro x10), (67, .v .bool .ro x67)], scr := [], mems := [(3, ⟨ty0, .ro, m3⟩)] } : ST cx)
noncomputable def u8 (k n1 : Nat) : T8 := fun (x1 : Int) (x2 : List (Int)) (x8 x9 x10 : Int) (x67 : Bool) (m3 : D0) => uK (run E h k c18) (s8 x1 x2 x8 x9 x10 x67 m3) (K39 k n1)
noncomputable abbrev l8 (k n1 : Nat) : T8 := fun (x1 : Int) (x2 : List (Int)) (x8 x9 x10 : Int) (x67 : Bool) (m3 : D0) => cutK (run E h k c18) (s8 x1 x2 x8 x9 x10 x67 m3) (K39 k n1)
abbrev s7 : Int → (List (Int)) → Int → Int → Int → Bool → D0 → ST cx := fun (x1 : Int) (x2 : List (Int)) (x8 x9 x10 : Int) (x11 : Bool) (m3 : D0) => ({ vars := [(1, .v (.int .i64) .ro x1), (2, .v (.slice 3 (.int .i64)) .ro x2), (3, .addr (.mem 3) []), (8, .v (.int .i64) .ro x8), (9, .v (.int .i64) .ro x9), (10, .v (.int .i64) .ro x10), (11, .v .bool .ro x11)], scr := [], mems := [(3, ⟨ty0, .ro, m3⟩)] } : ST cx)
noncomputable def u7 (k n1 : Nat) : T7 := fun (x1 : Int) (x2 : List (Int)) (x8 x9 x10 : Int) (x11 : Bool) (m3 : D0) => uK (run E h k c12) (s7 x1 x2 x8 x9 x10 x11 m3) (K26 k n1)
noncomputable abbrev l7 (k n1 : Nat) : T7 := fun (x1 : Int) (x2 : List (Int)) (x8 x9 x10 : Int) (x11 : Bool) (m3 : D0) => cutK (run E h k c12) (s7 x1 x2 x8 x9 x10 x11 m3) (K26 k n1)
abbrev s5 : Int → (List (Int)) → Int → Int → Int → Bool → Int → Bool → D0 → ST cx := fun (x1 : Int) (x2 : List (Int)) (x8 x9 x10 : Int) (x11 : Bool) (x12 : Int) (x46 : Bool) (m3 : D0) => ({ vars := [(1, .v (.int .i64) .ro x1), (2, .v (.slice 3 (.int .i64)) .ro x2), (3, .addr (.mem 3) []), (8, .v (.int .i64) .ro x8), (9, .v (.int .i64) .ro x9), (10, .v (.int .i64) .ro x10), (11, .v .bool .ro x11), (12, .v (.int .i64) .ro x12), (46, .v .bool .ro x46)], scr := [], mems := [(3, ⟨ty0, .ro, m3⟩)] } : ST cx)
noncomputable def u5 (k n1 n3 : Nat) : T5 := fun (x1 : Int) (x2 : List (Int)) (x8 x9 x10 : Int) (x11 : Bool) (x12 : Int) (x46 : Bool) (m3 : D0) => uK (run E h k c16) (s5 x1 x2 x8 x9 x10 x11 x12 x46 m3) (K34 k n1 n3)
noncomputable abbrev l5 (k n1 n3 : Nat) : T5 := fun (x1 : Int) (x2 : List (Int)) (x8 x9 x10 : Int) (x11 : Bool) (x12 : Int) (x46 : Bool) (m3 : D0) => cutK (run E h k c16) (s5 x1 x2 x8 x9 x10 x11 x12 x46 m3) (K34 k n1 n3)
abbrev s3 : Int → (List (Int)) → Int → Int → Int → Bool → Int → D0 → ST cx := fun (x1 : Int) (x2 : List (Int)) (x8 x9 x10 : Int) (x11 : Bool) (x12 : Int) (m3 : D0) => ({ vars := [(1, .v (.int .i64) .ro x1), (2, .v (.slice 3 (.int .i64)) .ro x2), (3, .addr (.mem 3) []), (8, .v (.int .i64) .ro x8), (9, .v (.int .i64) .ro x9), (10, .v (.int .i64) .ro x10), (11, .v .bool .ro x11), (12, .v (.int .i64) .ro x12)], scr := [], mems := [(3, ⟨ty0, .ro, m3⟩)] } : ST cx)
noncomputable def u3 (k n1 n3 : Nat) : T3 := fun (x1 : Int) (x2 : List (Int)) (x8 x9 x10 : Int) (x11 : Bool) (x12 : Int) (m3 : D0) => uK (loopL E h k c14 (K30 k n1) n3) (s3 x1 x2 x8 x9 x10 x11 x12 m3) ()
noncomputable abbrev l3 (k n1 n3 : Nat) : T3 := fun (x1 : Int) (x2 : List (Int)) (x8 x9 x10 : Int) (x11 : Bool) (x12 : Int) (m3 : D0) => cutK (loopL E h k c14 (K30 k n1) n3) (s3 x1 x2 x8 x9 x10 x11 x12 m3) ()
abbrev s4 : Int → Int → ST cx := fun (x8 x9 : Int) => ({ vars := [(8, .v (.int .i64) .ro x8), (9, .v (.int .i64) .ro x9)], scr := [], mems := [] } : ST cx)
noncomputable def u4 (k : Nat) : T4 := fun (x8 x9 : Int) => uK (run E h k c2) (s4 x8 x9) (K5 k)
noncomputable abbrev l4 (k : Nat) : T4 := fun (x8 x9 : Int) => cutK (run E h k c2) (s4 x8 x9) (K5 k)
abbrev s1 : Int → (List (Int)) → Int → Int → Int → D0 → ST cx := fun (x1 : Int) (x2 : List (Int)) (x8 x9 x10 : Int) (m3 : D0) => ({ vars := [(1, .v (.int .i64) .ro x1), (2, .v (.slice 3 (.int .i64)) .ro x2), (3, .addr (.mem 3) []), (8, .v (.int .i64) .ro x8), (9, .v (.int .i64) .ro x9), (10, .v (.int .i64) .ro x10)], scr := [], mems := [(3, ⟨ty0, .ro, m3⟩)] } : ST cx)
noncomputable def u1 (k n1 : Nat) : T1 := fun (x1 : Int) (x2 : List (Int)) (x8 x9 x10 : Int) (m3 : D0) => uK (loopL E h k c4 (K9 k) n1) (s1 x1 x2 x8 x9 x10 m3) ()
noncomputable abbrev l1 (k n1 : Nat) : T1 := fun (x1 : Int) (x2 : List (Int)) (x8 x9 x10 : Int) (m3 : D0) => cutK (loopL E h k c4 (K9 k) n1) (s1 x1 x2 x8 x9 x10 m3) ()
noncomputable def u0 (k : Nat) : T0 := fun (x0 : D0) (x1 : Int) (x2 : List (Int)) => runOf (S := cx) E h k Try.f73 [.val ty0, .val (.int .i64), .val (.slice 3 (.int .i64))] (.pair (.int .i64) (.int .i64)) .ro (x0, x1, x2, ())
def t2 (f1 : T1) : T2 := fun (x1 : Int) (x2 : List (Int)) (x8 x9 x10 : Int) (m3 : D0) => 
  (f1 x1 x2 x8 x9 (w64 (x10 + (1 : Int))) m3)
theorem e2 (k n1 : Nat) : u2 k n1 = t2 (l1 k n1) := by kernel_rfl
theorem g2 (k n1 : Nat) : l2 k n1 = u2 k n1 := funext fun _ => funext fun _ => funext fun _ => funext fun _ => funext fun _ => funext fun _ => cut_u _ _ _
theorem d2 {x1 y1 : T1} (h1 : x1 = y1) : t2 x1 = t2 y1 := by subst h1; rfl
def p2 (k : Nat) (a1 : T1) : T2 := t2 a1
theorem o2 (k n1 : Nat) (a1 : T1) (h1 : l1 k n1 = a1) : l2 k n1 = p2 k a1 := (Eq.trans (b := u2 k n1) (g2 k n1) (Eq.trans (b := t2 (l1 k n1)) (e2 k n1) (Eq.trans (b := t2 a1) (d2 h1) (by kernel_rfl))))
def t6 (f3 : T3) : T6 := fun (x1 : Int) (x2 : List (Int)) (x8 x9 x10 x12 : Int) (m3 : D0) => 
  (withinR x10 (List.length m3.2.2.2.1) fun q3 => (withinR x12 (List.length (List.getD m3.2.2.2.1 q3 ((0 : Int), ([] : List (Int)))).2) fun q4 => (withinR x12 (List.length x2) fun q5 => (f3 x1 x2 x8 x9 x10 (decide ((List.getD (List.getD m3.2.2.2.1 q3 ((0 : Int), ([] : List (Int)))).2 q4 (0 : Int)) = (List.getD x2 q5 (0 : Int)))) (w64 (x12 + (1 : Int))) m3))))
theorem e6 (k n1 n3 : Nat) : u6 k n1 n3 = t6 (l3 k n1 n3) := by kernel_rfl
theorem g6 (k n1 n3 : Nat) : l6 k n1 n3 = u6 k n1 n3 := funext fun _ => funext fun _ => funext fun _ => funext fun _ => funext fun _ => funext fun _ => funext fun _ => cut_u _ _ _
theorem d6 {x3 y3 : T3} (h3 : x3 = y3) : t6 x3 = t6 y3 := by subst h3; rfl
def p6 (k : Nat) (a1 : T1) (a3 : T3) : T6 := t6 a3
theorem o6 (k n1 n3 : Nat) (a1 : T1) (a3 : T3) (h1 : l1 k n1 = a1) (h3 : l3 k n1 n3 = a3) : l6 k n1 n3 = p6 k a1 a3 := (Eq.trans (b := u6 k n1 n3) (g6 k n1 n3) (Eq.trans (b := t6 (l3 k n1 n3)) (e6 k n1 n3) (Eq.trans (b := t6 a3) (d6 h3) (by kernel_rfl))))
def t8 (f2 : T2) : T8 := fun (x1 : Int) (x2 : List (Int)) (x8 x9 x10 : Int) (x67 : Bool) (m3 : D0) => 
  (iteB x67 (f2 x1 x2 x10 x9 x10 m3) (f2 x1 x2 x8 x9 x10 m3))
theorem e8 (k n1 : Nat) : u8 k n1 = t8 (l2 k n1) := by kernel_rfl
theorem g8 (k n1 : Nat) : l8 k n1 = u8 k n1 := funext fun _ => funext fun _ => funext fun _ => funext fun _ => funext fun _ => funext fun _ => funext fun _ => cut_u _ _ _
theorem d8 {x2 y2 : T2} (h2 : x2 = y2) : t8 x2 = t8 y2 := by subst h2; rfl
def p8 (k : Nat) (a1 : T1) : T8 := t8 (p2 k a1)
theorem o8 (k n1 : Nat) (a1 : T1) (h1 : l1 k n1 = a1) : l8 k n1 = p8 k a1 := (Eq.trans (b := u8 k n1) (g8 k n1) (Eq.trans (b := t8 (l2 k n1)) (e8 k n1) (Eq.trans (b := t8 (p2 k a1)) (d8 (o2 k n1 a1 h1)) (by kernel_rfl))))
def t7 (f8 : T8) : T7 := fun (x1 : Int) (x2 : List (Int)) (x8 x9 x10 : Int) (x11 : Bool) (m3 : D0) => 
  (iteB x11 (f8 x1 x2 x8 x9 x10 (decide (x8 < (0 : Int))) m3) (f8 x1 x2 x8 x9 x10 false m3))
theorem e7 (k n1 : Nat) : u7 k n1 = t7 (l8 k n1) := by kernel_rfl
theorem g7 (k n1 : Nat) : l7 k n1 = u7 k n1 := funext fun _ => funext fun _ => funext fun _ => funext fun _ => funext fun _ => funext fun _ => funext fun _ => cut_u _ _ _
theorem d7 {x8 y8 : T8} (h8 : x8 = y8) : t7 x8 = t7 y8 := by subst h8; rfl
def p7 (k : Nat) (a1 : T1) : T7 := t7 (p8 k a1)
theorem o7 (k n1 : Nat) (a1 : T1) (h1 : l1 k n1 = a1) : l7 k n1 = p7 k a1 := (Eq.trans (b := u7 k n1) (g7 k n1) (Eq.trans (b := t7 (l8 k n1)) (e7 k n1) (Eq.trans (b := t7 (p8 k a1)) (d7 (o8 k n1 a1 h1)) (by kernel_rfl))))
def t5 (f6 : T6) (f7 : T7) : T5 := fun (x1 : Int) (x2 : List (Int)) (x8 x9 x10 : Int) (x11 : Bool) (x12 : Int) (x46 : Bool) (m3 : D0) => 
  (iteB x46 (f6 x1 x2 x8 x9 x10 x12 m3) (f7 x1 x2 x8 x9 x10 x11 m3))
theorem e5 (k n1 n3 : Nat) : u5 k n1 n3 = t5 (l6 k n1 n3) (l7 k n1) := by kernel_rfl
theorem g5 (k n1 n3 : Nat) : l5 k n1 n3 = u5 k n1 n3 := funext fun _ => funext fun _ => funext fun _ => funext fun _ => funext fun _ => funext fun _ => funext fun _ => funext fun _ => funext fun _ => cut_u _ _ _
theorem d5 {x6 y6 : T6} {x7 y7 : T7} (h6 : x6 = y6) (h7 : x7 = y7) : t5 x6 x7 = t5 y6 y7 := by subst h6; subst h7; rfl
def p5 (k : Nat) (a1 : T1) (a3 : T3) : T5 := t5 (p6 k a1 a3) (p7 k a1)
theorem o5 (k n1 n3 : Nat) (a1 : T1) (a3 : T3) (h1 : l1 k n1 = a1) (h3 : l3 k n1 n3 = a3) : l5 k n1 n3 = p5 k a1 a3 := (Eq.trans (b := u5 k n1 n3) (g5 k n1 n3) (Eq.trans (b := t5 (l6 k n1 n3) (l7 k n1)) (e5 k n1 n3) (Eq.trans (b := t5 (p6 k a1 a3) (p7 k a1)) (d5 (o6 k n1 n3 a1 a3 h1 h3) (o7 k n1 a1 h1)) (by kernel_rfl))))
def t3 (f5 : T5) : T3 := fun (x1 : Int) (x2 : List (Int)) (x8 x9 x10 : Int) (x11 : Bool) (x12 : Int) (m3 : D0) => 
  (iteB (decide (x12 < ((List.length x2 : Nat) : Int))) (f5 x1 x2 x8 x9 x10 x11 x12 x11 m3) (f5 x1 x2 x8 x9 x10 x11 x12 false m3))
theorem e3 (k n1 n3 : Nat) : u3 k n1 (n3 + 1) = t3 (l5 k n1 n3) := by kernel_rfl
theorem g3 (k n1 n3 : Nat) : l3 k n1 (n3 + 1) = u3 k n1 (n3 + 1) := funext fun _ => funext fun _ => funext fun _ => funext fun _ => funext fun _ => funext fun _ => funext fun _ => funext fun _ => cut_u _ _ _
theorem d3 {x5 y5 : T5} (h5 : x5 = y5) : t3 x5 = t3 y5 := by subst h5; rfl
def p3 (k : Nat) (a1 : T1) : Nat → T3
  | 0 => fun _ _ _ _ _ _ _ _ => none
  | n3 + 1 => t3 (p5 k a1 (p3 k a1 n3))
theorem o3 (k n1 : Nat) (a1 : T1) (h1 : l1 k n1 = a1) : ∀ n3, l3 k n1 n3 = p3 k a1 n3 := by
  intro n3
  induction n3 with
  | zero => kernel_rfl
  | succ n3 ih => exact (Eq.trans (b := u3 k n1 (n3 + 1)) (g3 k n1 n3) (Eq.trans (b := t3 (l5 k n1 n3)) (e3 k n1 n3) (Eq.trans (b := t3 (p5 k a1 (p3 k a1 n3))) (d3 (o5 k n1 n3 a1 (p3 k a1 n3) h1 ih)) (by kernel_rfl))))
def t4 : T4 := fun (x8 x9 : Int) => 
  (some ((x8, x9), ()))
theorem e4 (k : Nat) : u4 k = t4 := by kernel_rfl
theorem g4 (k : Nat) : l4 k = u4 k := funext fun _ => funext fun _ => cut_u _ _ _
def p4 (k : Nat) : T4 := t4
theorem o4 (k : Nat) : l4 k = p4 k := (Eq.trans (b := u4 k) (g4 k) (Eq.trans (b := t4) (e4 k) (by kernel_rfl)))
def t1 (f2 : T2) (f3 : T3) (f4 : T4) : T1 := fun (x1 : Int) (x2 : List (Int)) (x8 x9 x10 : Int) (m3 : D0) => 
  (iteB (decide (x10 < ((List.length m3.2.2.2.1 : Nat) : Int))) (withinR x10 (List.length m3.2.2.2.1) fun q1 => (iteB (!decide ((List.getD m3.2.2.2.1 q1 ((0 : Int), ([] : List (Int)))).1 = x1)) (f2 x1 x2 x8 x9 x10 m3) (withinR x10 (List.length m3.2.2.2.1) fun q2 => (f3 x1 x2 x8 (w64 (x9 + (1 : Int))) x10 (decide (((List.length (List.getD m3.2.2.2.1 q2 ((0 : Int), ([] : List (Int)))).2 : Nat) : Int) = ((List.length x2 : Nat) : Int))) (0 : Int) m3)))) (f4 x8 x9))
theorem e1 (k n1 : Nat) : u1 k (n1 + 1) = t1 (l2 k n1) (l3 k n1 k) (l4 k) := by kernel_rfl
theorem g1 (k n1 : Nat) : l1 k (n1 + 1) = u1 k (n1 + 1) := funext fun _ => funext fun _ => funext fun _ => funext fun _ => funext fun _ => funext fun _ => cut_u _ _ _
theorem d1 {x2 y2 : T2} {x3 y3 : T3} {x4 y4 : T4} (h2 : x2 = y2) (h3 : x3 = y3) (h4 : x4 = y4) : t1 x2 x3 x4 = t1 y2 y3 y4 := by subst h2; subst h3; subst h4; rfl
def p1 (k : Nat) : Nat → T1
  | 0 => fun _ _ _ _ _ _ => none
  | n1 + 1 => t1 (p2 k (p1 k n1)) (p3 k (p1 k n1) k) (p4 k)
theorem o1 (k : Nat) : ∀ n1, l1 k n1 = p1 k n1 := by
  intro n1
  induction n1 with
  | zero => kernel_rfl
  | succ n1 ih => exact (Eq.trans (b := u1 k (n1 + 1)) (g1 k n1) (Eq.trans (b := t1 (l2 k n1) (l3 k n1 k) (l4 k)) (e1 k n1) (Eq.trans (b := t1 (p2 k (p1 k n1)) (p3 k (p1 k n1) k) (p4 k)) (d1 (o2 k n1 (p1 k n1) ih) (o3 k n1 (p1 k n1) ih k) (o4 k)) (by kernel_rfl))))
def t0 (f1 : T1) : T0 := fun (x0 : D0) (x1 : Int) (x2 : List (Int)) => 
  (f1 x1 x2 (-1 : Int) (0 : Int) (0 : Int) x0)
theorem e0 (k : Nat) : u0 k = t0 (l1 k k) := by kernel_rfl
theorem d0 {x1 y1 : T1} (h1 : x1 = y1) : t0 x1 = t0 y1 := by subst h1; rfl
def p0 (k : Nat) : T0 := t0 (p1 k k)
theorem o0 (k : Nat) : u0 k = p0 k := (Eq.trans (b := t0 (l1 k k)) (e0 k) (Eq.trans (b := t0 (p1 k k)) (d0 (o1 k k)) (by kernel_rfl)))
end ref11_rule
def s_ref11_rule (a : (D0) × ((Int) × ((List (Int)) × (Unit)))) : Option (((Int) × (Int)) × (Unit)) := ref11_rule.p0 (fuel) a.1 a.2.1 a.2.2.1
noncomputable def F_ref11_rule : FSpec cx.toNm := { ps := [.val ty0, .val (.int .i64), .val (.slice 3 (.int .i64))], nres := 2, rt := (.pair (.int .i64) (.int .i64)), rm := .ro, f := s_ref11_rule }
theorem w_ref11_rule (a : (D0) × ((Int) × ((List (Int)) × (Unit)))) : runOf (S := cx) ref11_rule.E ref11_rule.h (fuel) Try.f73 F_ref11_rule.ps F_ref11_rule.rt F_ref11_rule.rm a = s_ref11_rule a := Eq.trans (b := ref11_rule.u0 (fuel) a.1 a.2.1 a.2.2.1) (by kernel_rfl) (Eq.trans (b := ref11_rule.p0 (fuel) a.1 a.2.1 a.2.2.1) (congrFun (congrFun (congrFun (ref11_rule.o0 (fuel)) a.1) a.2.1) a.2.2.1) (by kernel_rfl))
theorem ok_ref11_rule : FnOk Try.prog F_ref11_rule 73 := fn_of (F := F_ref11_rule) (hn := ref11_rule.h) (E := ref11_rule.E) cxOk (tysT _ _ _) fs_nil follows Try.func73 (by kernel_rfl) (fun a r h => ⟨fuel, Eq.trans (w_ref11_rule a) h⟩)
namespace ref11_Note
noncomputable def E : Env cx := { tys := tys, fs := fsOf [(73, F_ref11_rule)] }
abbrev R := Option (((List (Int)) × (Bool)) × (Unit))
abbrev C := Exit → ST cx → R
noncomputable def b : Code := bodyC Try.f52
noncomputable def h : Hint := { vs := [0, 1, 2, 3, 6, 7, 8, 9, 10, 11, 12, 13, 15, 17], nil := [], cuts := [(8, ([2, 3, 8, 9, 10], [3]), ([2, 3, 8, 9, 10], [3]))], ret := ([6, 7], [3]), ords := [(10, [0, 1, 2, 3, 4, 5, 6, 7, 8, 10, 11, 12, 13, 14, 15, 16, 17, 18, 19, 20, 21, 22, 23, 24, 25, 26, 27, 28, 29, 30, 31, 32, 33, 34, 35, 36, 37, 38, 39, 40, 41, 42, 9, 43, 44]), (13, [0, 1, 2, 3, 4, 5, 6, 7, 8, 9, 10, 11, 12, 14, 15, 16, 17, 18, 19, 20, 21, 22, 23, 24, 25, 26, 27, 28, 29, 30, 31, 32, 33, 34, 35, 36, 37, 38, 39, 13, 40, 41]), (15, [0, 1, 2, 3, 4, 5, 6, 8, 9, 10, 11, 12, 13, 14, 15, 16, 17, 7, 18, 19])], trees := [(3, (.step 1 (.step 2 (.step 3 (.step 4 (.step 5 (.step 6 (.both (.step 0 (.step 8 (.step 7 (.step 9 .done)))) (.step 7 (.step 0 (.step 8 (.step 9 .done))))))))))))] }
noncomputable def K0 : C := fin (S := cx) E Try.f52.results.toList (.pair (.slice 3 (.int .i64)) .bool) .ro [] []
noncomputable def c0 : Code := subC b [1]
noncomputable def K1 (k : Nat) : C := outD h c0 K0
noncomputable def K2 (k : Nat) : C := seqC E h k c0 K0
noncomputable def c1 : Code := subC b [1, 1]
noncomputable def K3 (k : Nat) : C := outD h c1 (K1 k)
noncomputable def K4 (k : Nat) : C := seqC E h k c1 (K1 k)
noncomputable def c2 : Code := subC b [1, 0, 1]
noncomputable def K5 (k : Nat) : C := outD h c2 (K4 k)
noncomputable def K6 (k : Nat) : C := seqC E h k c2 (K4 k)
noncomputable def c3 : Code := subC b [1, 0, 1, 0, 1]
noncomputable def K7 (k : Nat) : C := outD h c3 (K5 k)
noncomputable def K8 (k : Nat) : C := seqC E h k c3 (K5 k)
noncomputable def c4 : Code := subC b [1, 0, 1, 0, 1, 1]
noncomputable def K9 (k : Nat) : C := outD h c4 (K7 k)
noncomputable def K10 (k : Nat) : C := seqC E h k c4 (K7 k)
noncomputable def c5 : Code := subC b [1, 0, 1, 0, 1, 1, 1]
noncomputable def K11 (k : Nat) : C := outD h c5 (K9 k)
noncomputable def K12 (k : Nat) : C := seqC E h k c5 (K9 k)
noncomputable def c6 : Code := subC b [1, 0, 1, 0, 1, 1, 0, 1]
noncomputable def K13 (k : Nat) : C := outD h c6 (K12 k)
noncomputable def K14 (k : Nat) : C := seqC E h k c6 (K12 k)
noncomputable def c7 : Code := subC b [1, 0, 1, 0, 1, 1, 0, 1, 0, 1]
noncomputable def K15 (k : Nat) : C := outD h c7 (K13 k)
noncomputable def K16 (k : Nat) : C := seqC E h k c7 (K13 k)
noncomputable def c8 : Code := subC b [1, 0, 1, 0, 1, 1, 0, 1, 0, 1, 1]
noncomputable def K17 (k : Nat) : C := outD h c8 (K15 k)
noncomputable def K18 (k : Nat) : C := seqC E h k c8 (K15 k)
noncomputable def c9 : Code := subC b [1, 1, 1]
noncomputable def K19 (k : Nat) : C := outD h c9 (K3 k)
noncomputable def K20 (k : Nat) : C := seqC E h k c9 (K3 k)
noncomputable def c10 : Code := subC b [1, 1, 0, 1]
noncomputable def K21 (k : Nat) : C := outD h c10 (K20 k)
noncomputable def K22 (k : Nat) : C := seqC E h k c10 (K20 k)
noncomputable def c11 : Code := subC b [1, 1, 0, 1, 0, 1]
noncomputable def K23 (k : Nat) : C := outD h c11 (K21 k)
noncomputable def K24 (k : Nat) : C := seqC E h k c11 (K21 k)
noncomputable def c12 : Code := subC b [1, 1, 0, 1, 0, 1, 1]
noncomputable def K25 (k : Nat) : C := outD h c12 (K23 k)
noncomputable def K26 (k : Nat) : C := seqC E h k c12 (K23 k)
noncomputable def c13 : Code := subC b [1, 1, 1, 1]
noncomputable def K27 (k : Nat) : C := outD h c13 (K19 k)
noncomputable def K28 (k : Nat) : C := seqC E h k c13 (K19 k)
noncomputable def c14 : Code := subC b [1, 1, 1, 1, 1]
noncomputable def K29 (k : Nat) : C := outD h c14 (K27 k)
noncomputable def K30 (k : Nat) : C := seqC E h k c14 (K27 k)
noncomputable def c15 : Code := subC b [1, 0, 1, 0, 1, 1, 1, 1]
noncomputable def K31 (k : Nat) : C := outD h c15 (K11 k)
noncomputable def K32 (k : Nat) : C := seqC E h k c15 (K11 k)
noncomputable def c16 : Code := subC b [1, 0, 1, 0, 1, 1, 1, 1, 1]
noncomputable def K33 (k : Nat) : C := outD h c16 (K31 k)
noncomputable def K34 (k : Nat) : C := seqC E h k c16 (K31 k)
noncomputable def c17 : Code := subC b [1, 0, 1, 0, 1, 1, 1, 1, 1, 1]
noncomputable def K35 (k : Nat) : C := outD h c17 (K33 k)
noncomputable def K36 (k : Nat) : C := seqC E h k c17 (K33 k)
abbrev T1 := (List (Int)) → Int → (List (Int)) → (List (Int)) → D0 → R
abbrev T0 := D0 → Int → (List (Int)) → R
abbrev s1 : (List (Int)) → Int → (List (Int)) → (List (Int)) → D0 → ST cx := fun (x2 : List (Int)) (x8 : Int) (x9 x10 : List (Int)) (m3 : D0) => ({ vars := [(2, .v (.slice 3 (.int .i64)) .ro x2), (3, .addr (.mem 3) []), (8, .v (.int .i64) .ro x8), (9, .v (.slice 3 (.int .i64)) .ro x9), (10, .v (.slice 3 (.int .i64)) .ro x10)], scr := [], mems := [(3, ⟨ty0, .ro, m3⟩)] } : ST cx)
noncomputable def u1 (k : Nat) : T1 := fun (x2 : List (Int)) (x8 : Int) (x9 x10 : List (Int)) (m3 : D0) => uK (run E h k c5) (s1 x2 x8 x9 x10 m3) (K11 k)
noncomputable abbrev l1 (k : Nat) : T1 := fun (x2 : List (Int)) (x8 : Int) (x9 x10 : List (Int)) (m3 : D0) => cutK (run E h k c5) (s1 x2 x8 x9 x10 m3) (K11 k)
noncomputable def u0 (k : Nat) : T0 := fun (x0 : D0) (x1 : Int) (x2 : List (Int)) => runOf (S := cx) E h k Try.f52 [.val ty0, .val (.int .u8), .val (.slice 3 (.int .i64))] (.pair (.slice 3 (.int .i64)) .bool) .ro (x0, x1, x2, ())
def t1 : T1 := fun (x2 : List (Int)) (x8 : Int) (x9 x10 : List (Int)) (m3 : D0) => 
  (withinR (0 : Int) (List.length x2) fun q31 => (bindR (s_ref11_rule (m3, ((List.getD x2 q31 (0 : Int)), (x9, ())))) fun r32 => (withinR (0 : Int) (List.length x2) fun q33 => (bindR (s_ref11_rule (m3, ((List.getD x2 q33 (0 : Int)), (x10, ())))) fun r34 => (withinR (0 : Int) (List.length x2) fun q35 => (withinR (1 : Int) (List.length x2) fun q36 => (iteB (decide ((0 : Int) ≤ r32.1.1)) (iteB (decide ((0 : Int) ≤ r34.1.1)) (iteB (decide (r32.1.2 = (2 : Int))) (withinR (0 : Int) (List.length x2) fun q37 => (iteB (decide (m3.2.1 < (List.getD x2 q37 (0 : Int)))) (withinR (0 : Int) (List.length x2) fun q38 => (withinR (1 : Int) (List.length x2) fun q39 => (iteB (!decide ((List.getD x2 q38 (0 : Int)) = (List.getD x2 q39 (0 : Int)))) (some ((([(List.getD x2 q35 (0 : Int)), (List.getD x2 q36 (0 : Int)), x8, r32.1.1, r34.1.1] : List (Int)), (decide (x8 < m3.2.1))), ())) (some ((([(List.getD x2 q35 (0 : Int)), (List.getD x2 q36 (0 : Int)), x8, r32.1.1, r34.1.1] : List (Int)), false), ()))))) (some ((([(List.getD x2 q35 (0 : Int)), (List.getD x2 q36 (0 : Int)), x8, r32.1.1, r34.1.1] : List (Int)), false), ())))) (some ((([(List.getD x2 q35 (0 : Int)), (List.getD x2 q36 (0 : Int)), x8, r32.1.1, r34.1.1] : List (Int)), false), ()))) (some ((([(List.getD x2 q35 (0 : Int)), (List.getD x2 q36 (0 : Int)), x8, r32.1.1, r34.1.1] : List (Int)), false), ()))) (some ((([(List.getD x2 q35 (0 : Int)), (List.getD x2 q36 (0 : Int)), x8, r32.1.1, r34.1.1] : List (Int)), false), ())))))))))
theorem e1 (k : Nat) : u1 k = t1 := by kernel_rfl
theorem g1 (k : Nat) : l1 k = u1 k := funext fun _ => funext fun _ => funext fun _ => funext fun _ => funext fun _ => cut_u _ _ _
def p1 (k : Nat) : T1 := t1
theorem o1 (k : Nat) : l1 k = p1 k := (Eq.trans (b := u1 k) (g1 k) (Eq.trans (b := t1) (e1 k) (by kernel_rfl)))
def t0 (f1 : T1) : T0 := fun (x0 : D0) (x1 : Int) (x2 : List (Int)) => 
  (iteB (decide (x1 = (1 : Int))) (withinR (0 : Int) (List.length x2) fun q1 => (withinR (1 : Int) (List.length x2) fun q2 => (meetK (iteB (decide (((List.length x2 : Nat) : Int) = (3 : Int))) (withinR (2 : Int) (List.length x2) fun q3 => (withinR (1 : Int) (List.length x2) fun q4 => (withinR (0 : Int) (List.length x2) fun q5 => (withinR (2 : Int) (List.length x2) fun q6 => (withinR (1 : Int) (List.length x2) fun q7 => (f1 x2 (List.getD x2 q3 (0 : Int)) ([(List.getD x2 q4 (0 : Int))] : List (Int)) ([(List.getD x2 q5 (0 : Int)), (List.getD x2 q6 (0 : Int)), (List.getD x2 q7 (0 : Int))] : List (Int)) x0)))))) (f1 x2 (-1 : Int) ([] : List (Int)) ([(List.getD x2 q1 (0 : Int)), (List.getD x2 q2 (0 : Int))] : List (Int)) x0)) (iteB (decide (((List.length x2 : Nat) : Int) = (3 : Int))) (withinR (2 : Int) (List.length x2) fun q8 => (withinR (1 : Int) (List.length x2) fun q9 => (withinR (0 : Int) (List.length x2) fun q10 => (withinR (2 : Int) (List.length x2) fun q11 => (withinR (1 : Int) (List.length x2) fun q12 => (f1 x2 (List.getD x2 q8 (0 : Int)) ([(List.getD x2 q9 (0 : Int))] : List (Int)) ([(List.getD x2 q10 (0 : Int)), (List.getD x2 q11 (0 : Int)), (List.getD x2 q12 (0 : Int))] : List (Int)) x0)))))) (f1 x2 (-1 : Int) ([] : List (Int)) ([(List.getD x2 q1 (0 : Int)), (List.getD x2 q2 (0 : Int))] : List (Int)) x0))))) (iteB (decide (x1 = (2 : Int))) (withinR (0 : Int) (List.length x2) fun q13 => (withinR (1 : Int) (List.length x2) fun q14 => (withinR (2 : Int) (List.length x2) fun q15 => (withinR (3 : Int) (List.length x2) fun q16 => (bindR (s_ref11_rule (x0, ((List.getD x2 q13 (0 : Int)), (([(List.getD x2 q14 (0 : Int)), (List.getD x2 q15 (0 : Int)), (List.getD x2 q16 (0 : Int))] : List (Int)), ())))) fun r17 => (withinR (0 : Int) (List.length x2) fun q18 => (withinR (1 : Int) (List.length x2) fun q19 => (withinR (2 : Int) (List.length x2) fun q20 => (withinR (3 : Int) (List.length x2) fun q21 => (iteB (decide ((0 : Int) ≤ r17.1.1)) (withinR (1 : Int) (List.length x2) fun q22 => (iteB (decide ((List.getD x2 q22 (0 : Int)) < x0.2.1)) (withinR (2 : Int) (List.length x2) fun q23 => (iteB (decide (x0.2.1 < (List.getD x2 q23 (0 : Int)))) (withinR (3 : Int) (List.length x2) fun q24 => (some ((([r17.1.1, (List.getD x2 q18 (0 : Int)), (List.getD x2 q19 (0 : Int)), (List.getD x2 q20 (0 : Int)), (List.getD x2 q21 (0 : Int))] : List (Int)), (decide ((List.getD x2 q24 (0 : Int)) < x0.2.1))), ()))) (some ((([r17.1.1, (List.getD x2 q18 (0 : Int)), (List.getD x2 q19 (0 : Int)), (List.getD x2 q20 (0 : Int)), (List.getD x2 q21 (0 : Int))] : List (Int)), false), ())))) (some ((([r17.1.1, (List.getD x2 q18 (0 : Int)), (List.getD x2 q19 (0 : Int)), (List.getD x2 q20 (0 : Int)), (List.getD x2 q21 (0 : Int))] : List (Int)), false), ())))) (some ((([r17.1.1, (List.getD x2 q18 (0 : Int)), (List.getD x2 q19 (0 : Int)), (List.getD x2 q20 (0 : Int)), (List.getD x2 q21 (0 : Int))] : List (Int)), false), ())))))))))))) (withinR (0 : Int) (List.length x2) fun q25 => (withinR (1 : Int) (List.length x2) fun q26 => (bindR (s_ref11_rule (x0, ((List.getD x2 q25 (0 : Int)), (([(List.getD x2 q26 (0 : Int))] : List (Int)), ())))) fun r27 => (withinR (0 : Int) (List.length x2) fun q28 => (withinR (1 : Int) (List.length x2) fun q29 => (iteB (decide ((0 : Int) ≤ r27.1.1)) (withinR (1 : Int) (List.length x2) fun q30 => (some ((([r27.1.1, (List.getD x2 q28 (0 : Int)), (List.getD x2 q29 (0 : Int))] : List (Int)), (decide ((List.getD x2 q30 (0 : Int)) < x0.2.1))), ()))) (some ((([r27.1.1, (List.getD x2 q28 (0 : Int)), (List.getD x2 q29 (0 : Int))] : List (Int)), false), ()))))))))))
theorem e0 (k : Nat) : u0 k = t0 (l1 k) := by kernel_rfl
theorem d0 {x1 y1 : T1} (h1 : x1 = y1) : t0 x1 = t0 y1 := by subst h1; rfl
def p0 (k : Nat) : T0 := t0 (p1 k)
theorem o0 (k : Nat) : u0 k = p0 k := (Eq.trans (b := t0 (l1 k)) (e0 k) (Eq.trans (b := t0 (p1 k)) (d0 (o1 k)) (by kernel_rfl)))
end ref11_Note
def s_ref11_Note (a : (D0) × ((Int) × ((List (Int)) × (Unit)))) : Option (((List (Int)) × (Bool)) × (Unit)) := ref11_Note.p0 (fuel) a.1 a.2.1 a.2.2.1
noncomputable def F_ref11_Note : FSpec cx.toNm := { ps := [.val ty0, .val (.int .u8), .val (.slice 3 (.int .i64))], nres := 2, rt := (.pair (.slice 3 (.int .i64)) .bool), rm := .ro, f := s_ref11_Note }
theorem w_ref11_Note (a : (D0) × ((Int) × ((List (Int)) × (Unit)))) : runOf (S := cx) ref11_Note.E ref11_Note.h (fuel) Try.f52 F_ref11_Note.ps F_ref11_Note.rt F_ref11_Note.rm a = s_ref11_Note a := Eq.trans (b := ref11_Note.u0 (fuel) a.1 a.2.1 a.2.2.1) (by kernel_rfl) (Eq.trans (b := ref11_Note.p0 (fuel) a.1 a.2.1 a.2.2.1) (congrFun (congrFun (congrFun (ref11_Note.o0 (fuel)) a.1) a.2.1) a.2.2.1) (by kernel_rfl))
theorem ok_ref11_Note : FnOk Try.prog F_ref11_Note 52 := fn_of (F := F_ref11_Note) (hn := ref11_Note.h) (E := ref11_Note.E) cxOk (tysT _ _ _) (fs_cons ok_ref11_rule fs_nil) follows Try.func52 (by kernel_rfl) (fun a r h => ⟨fuel, Eq.trans (w_ref11_Note a) h⟩)
namespace ref11_Ints
noncomputable def E : Env cx := { tys := tys, fs := fsOf [] }
abbrev R := Option ((Bool) × (Unit))
abbrev C := Exit → ST cx → R
noncomputable def b : Code := bodyC Try.f53
noncomputable def h : Hint := { vs := [0, 1, 4, 5], nil := [], cuts := [(4, ([0, 1, 5], []), ([], [])), (8, ([], []), ([], []))], ret := ([4], []), ords := [] }
noncomputable def K0 : C := fin (S := cx) E Try.f53.results.toList .bool .ro [] []
noncomputable def c0 : Code := subC b [1]
noncomputable def K1 (k : Nat) : C := outD h c0 K0
noncomputable def K2 (k : Nat) : C := seqC E h k c0 K0
noncomputable def c1 : Code := subC b [1, 1]
noncomputable def K3 (k : Nat) : C := outD h c1 (K1 k)
noncomputable def K4 (k : Nat) : C := seqC E h k c1 (K1 k)
noncomputable def c2 : Code := subC b [1, 0, 1]
noncomputable def K5 (k : Nat) : C := outD h c2 (K4 k)
noncomputable def K6 (k : Nat) : C := seqC E h k c2 (K4 k)
noncomputable def c3 : Code := subC b [1, 0, 1, 0, 1]
noncomputable def K7 (k : Nat) : C := outD h c3 (K5 k)
noncomputable def K8 (k : Nat) : C := seqC E h k c3 (K5 k)
noncomputable def c4 : Code := subC b [1, 1, 1]
noncomputable def K9 (k : Nat) : C := outD h c4 (K3 k)
noncomputable def K10 (k : Nat) : C := seqC E h k c4 (K3 k)
noncomputable def c5 : Code := subC b [1, 1, 0, 1]
noncomputable def K11 (k : Nat) : C := outD h c5 (K10 k)
noncomputable def K12 (k : Nat) : C := seqC E h k c5 (K10 k)
noncomputable def K13 (k : Nat) : C := blockK 0 (K11 k)
noncomputable def c6 : Code := subC b [1, 1, 0, 1, 0, 0]
noncomputable def K14 (k n1 : Nat) : C := loopD E h k c6 (K13 k) n1
noncomputable def c7 : Code := subC b [1, 1, 0, 1, 0, 0, 1]
noncomputable def K15 (k n1 : Nat) : C := outD h c7 (K14 k n1)
noncomputable def K16 (k n1 : Nat) : C := seqC E h k c7 (K14 k n1)
noncomputable def c8 : Code := subC b [1, 1, 0, 1, 0, 0, 0, 1]
noncomputable def K17 (k n1 : Nat) : C := outD h c8 (K16 k n1)
noncomputable def K18 (k n1 : Nat) : C := seqC E h k c8 (K16 k n1)
noncomputable def c9 : Code := subC b [1, 1, 0, 1, 0, 0, 1, 1]
noncomputable def K19 (k n1 : Nat) : C := outD h c9 (K15 k n1)
noncomputable def K20 (k n1 : Nat) : C := seqC E h k c9 (K15 k n1)
noncomputable def K21 (k n1 : Nat) : C := blockK 1 (K20 k n1)
noncomputable def c10 : Code := subC b [1, 1, 0, 1, 0, 0, 1, 0, 0, 1]
noncomputable def K22 (k n1 : Nat) : C := outD h c10 (K21 k n1)
noncomputable def K23 (k n1 : Nat) : C := seqC E h k c10 (K21 k n1)
noncomputable def c11 : Code := subC b [1, 1, 0, 1, 0, 0, 1, 0, 0, 1, 0, 1]
noncomputable def K24 (k n1 : Nat) : C := outD h c11 (K22 k n1)
noncomputable def K25 (k n1 : Nat) : C := seqC E h k c11 (K22 k n1)
noncomputable def c12 : Code := subC b [1, 1, 1, 1]
noncomputable def K26 (k : Nat) : C := outD h c12 (K9 k)
noncomputable def K27 (k : Nat) : C := seqC E h k c12 (K9 k)
abbrev T2 := R
abbrev T1 := (List (Int)) → (List (Int)) → Int → R
abbrev T0 := (List (Int)) → (List (Int)) → R
abbrev s2 : ST cx := ({ vars := [], scr := [], mems := [] } : ST cx)
noncomputable def u2 (k : Nat) : T2 := uK (run E h k c4) s2 (K9 k)
noncomputable abbrev l2 (k : Nat) : T2 := cutK (run E h k c4) s2 (K9 k)
abbrev s1 : (List (Int)) → (List (Int)) → Int → ST cx := fun (x0 x1 : List (Int)) (x5 : Int) => ({ vars := [(0, .v (.slice 3 (.int .i64)) .ro x0), (1, .v (.slice 3 (.int .i64)) .ro x1), (5, .v (.int .i64) .ro x5)], scr := [], mems := [] } : ST cx)
noncomputable def u1 (k n1 : Nat) : T1 := fun (x0 x1 : List (Int)) (x5 : Int) => uK (loopL E h k c6 (K13 k) n1) (s1 x0 x1 x5) ()
noncomputable abbrev l1 (k n1 : Nat) : T1 := fun (x0 x1 : List (Int)) (x5 : Int) => cutK (loopL E h k c6 (K13 k) n1) (s1 x0 x1 x5) ()
noncomputable def u0 (k : Nat) : T0 := fun (x0 x1 : List (Int)) => runOf (S := cx) E h k Try.f53 [.val (.slice 3 (.int .i64)), .val (.slice 3 (.int .i64))] .bool .ro (x0, x1, ())
def t2 : T2 := 
  (some (true, ()))
theorem e2 (k : Nat) : u2 k = t2 := by kernel_rfl
theorem g2 (k : Nat) : l2 k = u2 k := cut_u _ _ _
def p2 (k : Nat) : T2 := t2
theorem o2 (k : Nat) : l2 k = p2 k := (Eq.trans (b := u2 k) (g2 k) (Eq.trans (b := t2) (e2 k) (by kernel_rfl)))
def t1 (f1 : T1) (f2 : T2) : T1 := fun (x0 x1 : List (Int)) (x5 : Int) => 
  (iteB (decide (x5 < ((List.length x0 : Nat) : Int))) (withinR x5 (List.length x0) fun q1 => (withinR x5 (List.length x1) fun q2 => (iteB (!decide ((List.getD x0 q1 (0 : Int)) = (List.getD x1 q2 (0 : Int)))) (some (false, ())) (f1 x0 x1 (w64 (x5 + (1 : Int))))))) f2)
theorem e1 (k n1 : Nat) : u1 k (n1 + 1) = t1 (l1 k n1) (l2 k) := by kernel_rfl
theorem g1 (k n1 : Nat) : l1 k (n1 + 1) = u1 k (n1 + 1) := funext fun _ => funext fun _ => funext fun _ => cut_u _ _ _
theorem d1 {x1 y1 : T1} {x2 y2 : T2} (h1 : x1 = y1) (h2 : x2 = y2) : t1 x1 x2 = t1 y1 y2 := by subst h1; subst h2; rfl
def p1 (k : Nat) : Nat → T1
  | 0 => fun _ _ _ => none
  | n1 + 1 => t1 (p1 k n1) (p2 k)
theorem o1 (k : Nat) : ∀ n1, l1 k n1 = p1 k n1 := by
  intro n1
  induction n1 with
  | zero => kernel_rfl
  | succ n1 ih => exact (Eq.trans (b := u1 k (n1 + 1)) (g1 k n1) (Eq.trans (b := t1 (l1 k n1) (l2 k)) (e1 k n1) (Eq.trans (b := t1 (p1 k n1) (p2 k)) (d1 ih (o2 k)) (by kernel_rfl))))
def t0 (f1 : T1) : T0 := fun (x0 x1 : List (Int)) => 
  (iteB (!decide (((List.length x0 : Nat) : Int) = ((List.length x1 : Nat) : Int))) (some (false, ())) (f1 x0 x1 (0 : Int)))
theorem e0 (k : Nat) : u0 k = t0 (l1 k k) := by kernel_rfl
theorem d0 {x1 y1 : T1} (h1 : x1 = y1) : t0 x1 = t0 y1 := by subst h1; rfl
def p0 (k : Nat) : T0 := t0 (p1 k k)
theorem o0 (k : Nat) : u0 k = p0 k := (Eq.trans (b := t0 (l1 k k)) (e0 k) (Eq.trans (b := t0 (p1 k k)) (d0 (o1 k k)) (by kernel_rfl)))
end ref11_Ints
def s_ref11_Ints (a : (List (Int)) × ((List (Int)) × (Unit))) : Option ((Bool) × (Unit)) := ref11_Ints.p0 (fuel) a.1 a.2.1
noncomputable def F_ref11_Ints : FSpec cx.toNm := { ps := [.val (.slice 3 (.int .i64)), .val (.slice 3 (.int .i64))], nres := 1, rt := .bool, rm := .ro, f := s_ref11_Ints }
theorem w_ref11_Ints (a : (List (Int)) × ((List (Int)) × (Unit))) : runOf (S := cx) ref11_Ints.E ref11_Ints.h (fuel) Try.f53 F_ref11_Ints.ps F_ref11_Ints.rt F_ref11_Ints.rm a = s_ref11_Ints a := Eq.trans (b := ref11_Ints.u0 (fuel) a.1 a.2.1) (by kernel_rfl) (Eq.trans (b := ref11_Ints.p0 (fuel) a.1 a.2.1) (congrFun (congrFun (ref11_Ints.o0 (fuel)) a.1) a.2.1) (by kernel_rfl))
theorem ok_ref11_Ints : FnOk Try.prog F_ref11_Ints 53 := fn_of (F := F_ref11_Ints) (hn := ref11_Ints.h) (E := ref11_Ints.E) cxOk (tysT _ _ _) fs_nil follows Try.func53 (by kernel_rfl) (fun a r h => ⟨fuel, Eq.trans (w_ref11_Ints a) h⟩)
namespace ref11_noted
noncomputable def E : Env cx := { tys := tys, fs := fsOf [(52, F_ref11_Note), (53, F_ref11_Ints)] }
abbrev R := Option ((Bool) × (Unit))
abbrev C := Exit → ST cx → R
noncomputable def b : Code := bodyC Try.f34
noncomputable def h : Hint := { vs := [0, 1, 2, 3, 6, 7, 8, 9, 10, 11, 12], nil := [], cuts := [(2, ([1, 2, 3, 7], [3]), ([], [])), (3, ([1, 2, 3, 7], [3]), ([1, 2, 3, 7], [3])), (7, ([1, 2, 3, 7, 8], [3]), ([1, 2, 3, 7], [3])), (14, ([1, 2, 3, 7, 9], [3]), ([1, 2, 3, 7], [3])), (15, ([1, 2, 3, 7, 9, 10], [3]), ([1, 2, 3, 7, 9], [3])), (16, ([1, 2, 3, 7, 9, 10], [3]), ([1, 2, 3, 7, 9, 10], [3])), (18, ([1, 2, 3, 7, 9, 10, 66], [3]), ([1, 2, 3, 7, 9, 10], [3])), (19, ([1, 2, 3, 7, 9], [3]), ([1, 2, 3, 7], [3])), (21, ([1, 2, 3, 7, 84], [3]), ([1, 2, 3, 7], [3])), (22, ([], []), ([], []))], ret := ([6], [3]), ords := [] }
noncomputable def K0 : C := fin (S := cx) E Try.f34.results.toList .bool .ro [] []
noncomputable def c0 : Code := subC b [1]
noncomputable def K1 (k : Nat) : C := outD h c0 K0
noncomputable def K2 (k : Nat) : C := seqC E h k c0 K0
noncomputable def c1 : Code := subC b [1, 1]
noncomputable def K3 (k : Nat) : C := outD h c1 (K1 k)
noncomputable def K4 (k : Nat) : C := seqC E h k c1 (K1 k)
noncomputable def c2 : Code := subC b [1, 0, 1]
noncomputable def K5 (k : Nat) : C := outD h c2 (K4 k)
noncomputable def K6 (k : Nat) : C := seqC E h k c2 (K4 k)
noncomputable def K7 (k : Nat) : C := blockK 0 (K5 k)
noncomputable def c3 : Code := subC b [1, 0, 1, 0, 0]
noncomputable def K8 (k n1 : Nat) : C := loopD E h k c3 (K7 k) n1
noncomputable def c4 : Code := subC b [1, 0, 1, 0, 0, 1]
noncomputable def K9 (k n1 : Nat) : C := outD h c4 (K8 k n1)
noncomputable def K10 (k n1 : Nat) : C := seqC E h k c4 (K8 k n1)
noncomputable def c5 : Code := subC b [1, 0, 1, 0, 0, 0, 1]
noncomputable def K11 (k n1 : Nat) : C := outD h c5 (K10 k n1)
noncomputable def K12 (k n1 : Nat) : C := seqC E h k c5 (K10 k n1)
noncomputable def c6 : Code := subC b [1, 0, 1, 0, 0, 1, 1]
noncomputable def K13 (k n1 : Nat) : C := outD h c6 (K9 k n1)
noncomputable def K14 (k n1 : Nat) : C := seqC E h k c6 (K9 k n1)
noncomputable def K15 (k n1 : Nat) : C := blockK 1 (K14 k n1)
noncomputable def c7 : Code := subC b [1, 0, 1, 0, 0, 1, 0, 0, 1]
noncomputable def K16 (k n1 : Nat) : C := outD h c7 (K15 k n1)
noncomputable def K17 (k n1 : Nat) : C := seqC E h k c7 (K15 k n1)
noncomputable def c8 : Code := subC b [1, 0, 1, 0, 0, 1, 0, 0, 1, 1]
noncomputable def K18 (k n1 : Nat) : C := outD h c8 (K16 k n1)
noncomputable def K19 (k n1 : Nat) : C := seqC E h k c8 (K16 k n1)
noncomputable def c9 : Code := subC b [1, 0, 1, 0, 0, 1, 0, 0, 1, 0, 1]
noncomputable def K20 (k n1 : Nat) : C := outD h c9 (K19 k n1)
noncomputable def K21 (k n1 : Nat) : C := seqC E h k c9 (K19 k n1)
noncomputable def c10 : Code := subC b [1, 0, 1, 0, 0, 1, 0, 0, 1, 1, 1]
noncomputable def K22 (k n1 : Nat) : C := outD h c10 (K18 k n1)
noncomputable def K23 (k n1 : Nat) : C := seqC E h k c10 (K18 k n1)
noncomputable def c11 : Code := subC b [1, 0, 1, 0, 0, 1, 0, 0, 1, 1, 0, 1]
noncomputable def K24 (k n1 : Nat) : C := outD h c11 (K23 k n1)
noncomputable def K25 (k n1 : Nat) : C := seqC E h k c11 (K23 k n1)
noncomputable def c12 : Code := subC b [1, 0, 1, 0, 0, 1, 0, 0, 1, 1, 0, 1, 0, 1]
noncomputable def K26 (k n1 : Nat) : C := outD h c12 (K24 k n1)
noncomputable def K27 (k n1 : Nat) : C := seqC E h k c12 (K24 k n1)
noncomputable def c13 : Code := subC b [1, 0, 1, 0, 0, 1, 0, 0, 1, 1, 1, 1]
noncomputable def K28 (k n1 : Nat) : C := outD h c13 (K22 k n1)
noncomputable def K29 (k n1 : Nat) : C := seqC E h k c13 (K22 k n1)
noncomputable def c14 : Code := subC b [1, 0, 1, 0, 0, 1, 0, 0, 1, 1, 1, 1, 1]
noncomputable def K30 (k n1 : Nat) : C := outD h c14 (K28 k n1)
noncomputable def K31 (k n1 : Nat) : C := seqC E h k c14 (K28 k n1)
noncomputable def c15 : Code := subC b [1, 0, 1, 0, 0, 1, 0, 0, 1, 1, 1, 1, 0, 1]
noncomputable def K32 (k n1 : Nat) : C := outD h c15 (K31 k n1)
noncomputable def K33 (k n1 : Nat) : C := seqC E h k c15 (K31 k n1)
noncomputable def c16 : Code := subC b [1, 0, 1, 0, 0, 1, 0, 0, 1, 1, 1, 1, 0, 1, 0, 1]
noncomputable def K34 (k n1 : Nat) : C := outD h c16 (K32 k n1)
noncomputable def K35 (k n1 : Nat) : C := seqC E h k c16 (K32 k n1)
noncomputable def c17 : Code := subC b [1, 0, 1, 0, 0, 1, 0, 0, 1, 1, 1, 1, 0, 1, 0, 1, 1]
noncomputable def K36 (k n1 : Nat) : C := outD h c17 (K34 k n1)
noncomputable def K37 (k n1 : Nat) : C := seqC E h k c17 (K34 k n1)
noncomputable def c18 : Code := subC b [1, 0, 1, 0, 0, 1, 0, 0, 1, 1, 1, 1, 1, 1]
noncomputable def K38 (k n1 : Nat) : C := outD h c18 (K30 k n1)
noncomputable def K39 (k n1 : Nat) : C := seqC E h k c18 (K30 k n1)
noncomputable def c19 : Code := subC b [1, 0, 1, 0, 0, 1, 0, 0, 1, 1, 1, 1, 1, 0, 1]
noncomputable def K40 (k n1 : Nat) : C := outD h c19 (K39 k n1)
noncomputable def K41 (k n1 : Nat) : C := seqC E h k c19 (K39 k n1)
noncomputable def K42 (k n1 : Nat) : C := blockK 2 (K40 k n1)
noncomputable def c20 : Code := subC b [1, 0, 1, 0, 0, 1, 0, 0, 1, 1, 1, 1, 1, 0, 1, 0, 0]
noncomputable def K43 (k n1 n5 : Nat) : C := loopD E h k c20 (K42 k n1) n5
noncomputable def c21 : Code := subC b [1, 0, 1, 0, 0, 1, 0, 0, 1, 1, 1, 1, 1, 0, 1, 0, 0, 1]
noncomputable def K44 (k n1 n5 : Nat) : C := outD h c21 (K43 k n1 n5)
noncomputable def K45 (k n1 n5 : Nat) : C := seqC E h k c21 (K43 k n1 n5)
noncomputable def c22 : Code := subC b [1, 0, 1, 0, 0, 1, 0, 0, 1, 1, 1, 1, 1, 0, 1, 0, 0, 0, 1]
noncomputable def K46 (k n1 n5 : Nat) : C := outD h c22 (K45 k n1 n5)
noncomputable def K47 (k n1 n5 : Nat) : C := seqC E h k c22 (K45 k n1 n5)
noncomputable def c23 : Code := subC b [1, 0, 1, 0, 0, 1, 0, 0, 1, 1, 1, 1, 1, 0, 1, 0, 0, 1, 1]
noncomputable def K48 (k n1 n5 : Nat) : C := outD h c23 (K44 k n1 n5)
noncomputable def K49 (k n1 n5 : Nat) : C := seqC E h k c23 (K44 k n1 n5)
noncomputable def K50 (k n1 n5 : Nat) : C := blockK 3 (K49 k n1 n5)
noncomputable def c24 : Code := subC b [1, 0, 1, 0, 0, 1, 0, 0, 1, 1, 1, 1, 1, 0, 1, 0, 0, 1, 0, 0, 1]
noncomputable def K51 (k n1 n5 : Nat) : C := outD h c24 (K50 k n1 n5)
noncomputable def K52 (k n1 n5 : Nat) : C := seqC E h k c24 (K50 k n1 n5)
noncomputable def c25 : Code := subC b [1, 0, 1, 0, 0, 1, 0, 0, 1, 1, 1, 1, 1, 0, 1, 0, 0, 1, 0, 0, 1, 0, 1]
noncomputable def K53 (k n1 n5 : Nat) : C := outD h c25 (K51 k n1 n5)
noncomputable def K54 (k n1 n5 : Nat) : C := seqC E h k c25 (K51 k n1 n5)
noncomputable def c26 : Code := subC b [1, 0, 1, 0, 0, 1, 0, 0, 1, 1, 1, 1, 1, 1, 1]
noncomputable def K55 (k n1 : Nat) : C := outD h c26 (K38 k n1)
noncomputable def K56 (k n1 : Nat) : C := seqC E h k c26 (K38 k n1)
noncomputable def c27 : Code := subC b [1, 0, 1, 0, 0, 1, 0, 0, 1, 1, 1, 1, 1, 1, 1, 1]
noncomputable def K57 (k n1 : Nat) : C := outD h c27 (K55 k n1)
noncomputable def K58 (k n1 : Nat) : C := seqC E h k c27 (K55 k n1)
noncomputable def c28 : Code := subC b [1, 0, 1, 0, 0, 1, 0, 0, 1, 1, 1, 1, 1, 1, 1, 1, 0, 1]
noncomputable def K59 (k n1 : Nat) : C := outD h c28 (K57 k n1)
noncomputable def K60 (k n1 : Nat) : C := seqC E h k c28 (K57 k n1)
noncomputable def c29 : Code := subC b [1, 1, 1]
noncomputable def K61 (k : Nat) : C := outD h c29 (K3 k)
noncomputable def K62 (k : Nat) : C := seqC E h k c29 (K3 k)
abbrev T8 := Int → (List (List (Int))) → Int → (List (Int)) → Int → D0 → R
abbrev T6 := Int → (List (List (Int))) → Int → (List (Int)) → Int → Bool → D0 → R
abbrev T10 := Int → (List (List (Int))) → Int → D0 → R
abbrev T9 := Int → (List (List (Int))) → Int → Bool → D0 → R
abbrev T7 := Int → (List (List (Int))) → Int → (List (Int)) → D0 → R
abbrev T5 := Int → (List (List (Int))) → Int → (List (Int)) → Int → D0 → R
abbrev T4 := Int → (List (List (Int))) → Int → (List (Int)) → D0 → R
abbrev T2 := Int → (List (List (Int))) → Int → Int → D0 → R
abbrev T3 := R
abbrev T1 := Int → (List (List (Int))) → Int → D0 → R
abbrev T0 := D0 → Int → (List (List (Int))) → R
abbrev s8 : Int → (List (List (Int))) → Int → (List (Int)) → Int → D0 → ST cx := fun (x1 : Int) (x2 : List (List (Int))) (x7 : Int) (x9 : List (Int)) (x10 : Int) (m3 : D0) => ({ vars := [(1, .v (.int .u8) .ro x1), (2, .v (.slice 24 (.slice 3 (.int .i64))) .ro x2), (3, .addr (.mem 3) []), (7, .v (.int .i64) .ro x7), (9, .v (.slice 3 (.int .i64)) .ro x9), (10, .v (.int .i64) .ro x10)], scr := [], mems := [(3, ⟨ty0, .ro, m3⟩)] } : ST cx)
noncomputable def u8 (k n1 n5 : Nat) : T8 := fun (x1 : Int) (x2 : List (List (Int))) (x7 : Int) (x9 : List (Int)) (x10 : Int) (m3 : D0) => uK (run E h k c23) (s8 x1 x2 x7 x9 x10 m3) (K48 k n1 n5)
noncomputable abbrev l8 (k n1 n5 : Nat) : T8 := fun (x1 : Int) (x2 : List (List (Int))) (x7 : Int) (x9 : List (Int)) (x10 : Int) (m3 : D0) => cutK (run E h k c23) (s8 x1 x2 x7 x9 x10 m3) (K48 k n1 n5)
abbrev s6 : Int → (List (List (Int))) → Int → (List (Int)) → Int → Bool → D0 → ST cx := fun (x1 : Int) (x2 : List (List (Int))) (x7 : Int) (x9 : List (Int)) (x10 : Int) (x66 : Bool) (m3 : D0) => ({ vars := [(1, .v (.int .u8) .ro x1), (2, .v (.slice 24 (.slice 3 (.int .i64))) .ro x2), (3, .addr (.mem 3) []), (7, .v (.int .i64) .ro x7), (9, .v (.slice 3 (.int .i64)) .ro x9), (10, .v (.int .i64) .ro x10), (66, .v .bool .ro x66)], scr := [], mems := [(3, ⟨ty0, .ro, m3⟩)] } : ST cx)
noncomputable def u6 (k n1 n5 : Nat) : T6 := fun (x1 : Int) (x2 : List (List (Int))) (x7 : Int) (x9 : List (Int)) (x10 : Int) (x66 : Bool) (m3 : D0) => uK (run E h k c24) (s6 x1 x2 x7 x9 x10 x66 m3) (K51 k n1 n5)
noncomputable abbrev l6 (k n1 n5 : Nat) : T6 := fun (x1 : Int) (x2 : List (List (Int))) (x7 : Int) (x9 : List (Int)) (x10 : Int) (x66 : Bool) (m3 : D0) => cutK (run E h k c24) (s6 x1 x2 x7 x9 x10 x66 m3) (K51 k n1 n5)
abbrev s10 : Int → (List (List (Int))) → Int → D0 → ST cx := fun (x1 : Int) (x2 : List (List (Int))) (x7 : Int) (m3 : D0) => ({ vars := [(1, .v (.int .u8) .ro x1), (2, .v (.slice 24 (.slice 3 (.int .i64))) .ro x2), (3, .addr (.mem 3) []), (7, .v (.int .i64) .ro x7)], scr := [], mems := [(3, ⟨ty0, .ro, m3⟩)] } : ST cx)
noncomputable def u10 (k n1 : Nat) : T10 := fun (x1 : Int) (x2 : List (List (Int))) (x7 : Int) (m3 : D0) => uK (run E h k c6) (s10 x1 x2 x7 m3) (K13 k n1)
noncomputable abbrev l10 (k n1 : Nat) : T10 := fun (x1 : Int) (x2 : List (List (Int))) (x7 : Int) (m3 : D0) => cutK (run E h k c6) (s10 x1 x2 x7 m3) (K13 k n1)
abbrev s9 : Int → (List (List (Int))) → Int → Bool → D0 → ST cx := fun (x1 : Int) (x2 : List (List (Int))) (x7 : Int) (x84 : Bool) (m3 : D0) => ({ vars := [(1, .v (.int .u8) .ro x1), (2, .v (.slice 24 (.slice 3 (.int .i64))) .ro x2), (3, .addr (.mem 3) []), (7, .v (.int .i64) .ro x7), (84, .v .bool .ro x84)], scr := [], mems := [(3, ⟨ty0, .ro, m3⟩)] } : ST cx)
noncomputable def u9 (k n1 : Nat) : T9 := fun (x1 : Int) (x2 : List (List (Int))) (x7 : Int) (x84 : Bool) (m3 : D0) => uK (run E h k c27) (s9 x1 x2 x7 x84 m3) (K57 k n1)
noncomputable abbrev l9 (k n1 : Nat) : T9 := fun (x1 : Int) (x2 : List (List (Int))) (x7 : Int) (x84 : Bool) (m3 : D0) => cutK (run E h k c27) (s9 x1 x2 x7 x84 m3) (K57 k n1)
abbrev s7 : Int → (List (List (Int))) → Int → (List (Int)) → D0 → ST cx := fun (x1 : Int) (x2 : List (List (Int))) (x7 : Int) (x9 : List (Int)) (m3 : D0) => ({ vars := [(1, .v (.int .u8) .ro x1), (2, .v (.slice 24 (.slice 3 (.int .i64))) .ro x2), (3, .addr (.mem 3) []), (7, .v (.int .i64) .ro x7), (9, .v (.slice 3 (.int .i64)) .ro x9)], scr := [], mems := [(3, ⟨ty0, .ro, m3⟩)] } : ST cx)
noncomputable def u7 (k n1 : Nat) : T7 := fun (x1 : Int) (x2 : List (List (Int))) (x7 : Int) (x9 : List (Int)) (m3 : D0) => uK (run E h k c18) (s7 x1 x2 x7 x9 m3) (K38 k n1)
noncomputable abbrev l7 (k n1 : Nat) : T7 := fun (x1 : Int) (x2 : List (List (Int))) (x7 : Int) (x9 : List (Int)) (m3 : D0) => cutK (run E h k c18) (s7 x1 x2 x7 x9 m3) (K38 k n1)
abbrev s5 : Int → (List (List (Int))) → Int → (List (Int)) → Int → D0 → ST cx := fun (x1 : Int) (x2 : List (List (Int))) (x7 : Int) (x9 : List (Int)) (x10 : Int) (m3 : D0) => ({ vars := [(1, .v (.int .u8) .ro x1), (2, .v (.slice 24 (.slice 3 (.int .i64))) .ro x2), (3, .addr (.mem 3) []), (7, .v (.int .i64) .ro x7), (9, .v (.slice 3 (.int .i64)) .ro x9), (10, .v (.int .i64) .ro x10)], scr := [], mems := [(3, ⟨ty0, .ro, m3⟩)] } : ST cx)
noncomputable def u5 (k n1 n5 : Nat) : T5 := fun (x1 : Int) (x2 : List (List (Int))) (x7 : Int) (x9 : List (Int)) (x10 : Int) (m3 : D0) => uK (loopL E h k c20 (K42 k n1) n5) (s5 x1 x2 x7 x9 x10 m3) ()
noncomputable abbrev l5 (k n1 n5 : Nat) : T5 := fun (x1 : Int) (x2 : List (List (Int))) (x7 : Int) (x9 : List (Int)) (x10 : Int) (m3 : D0) => cutK (loopL E h k c20 (K42 k n1) n5) (s5 x1 x2 x7 x9 x10 m3) ()
abbrev s4 : Int → (List (List (Int))) → Int → (List (Int)) → D0 → ST cx := fun (x1 : Int) (x2 : List (List (Int))) (x7 : Int) (x9 : List (Int)) (m3 : D0) => ({ vars := [(1, .v (.int .u8) .ro x1), (2, .v (.slice 24 (.slice 3 (.int .i64))) .ro x2), (3, .addr (.mem 3) []), (7, .v (.int .i64) .ro x7), (9, .v (.slice 3 (.int .i64)) .ro x9)], scr := [], mems := [(3, ⟨ty0, .ro, m3⟩)] } : ST cx)
noncomputable def u4 (k n1 : Nat) : T4 := fun (x1 : Int) (x2 : List (List (Int))) (x7 : Int) (x9 : List (Int)) (m3 : D0) => uK (run E h k c14) (s4 x1 x2 x7 x9 m3) (K30 k n1)
noncomputable abbrev l4 (k n1 : Nat) : T4 := fun (x1 : Int) (x2 : List (List (Int))) (x7 : Int) (x9 : List (Int)) (m3 : D0) => cutK (run E h k c14) (s4 x1 x2 x7 x9 m3) (K30 k n1)
abbrev s2 : Int → (List (List (Int))) → Int → Int → D0 → ST cx := fun (x1 : Int) (x2 : List (List (Int))) (x7 x8 : Int) (m3 : D0) => ({ vars := [(1, .v (.int .u8) .ro x1), (2, .v (.slice 24 (.slice 3 (.int .i64))) .ro x2), (3, .addr (.mem 3) []), (7, .v (.int .i64) .ro x7), (8, .v (.int .i64) .ro x8)], scr := [], mems := [(3, ⟨ty0, .ro, m3⟩)] } : ST cx)
noncomputable def u2 (k n1 : Nat) : T2 := fun (x1 : Int) (x2 : List (List (Int))) (x7 x8 : Int) (m3 : D0) => uK (run E h k c8) (s2 x1 x2 x7 x8 m3) (K18 k n1)
noncomputable abbrev l2 (k n1 : Nat) : T2 := fun (x1 : Int) (x2 : List (List (Int))) (x7 x8 : Int) (m3 : D0) => cutK (run E h k c8) (s2 x1 x2 x7 x8 m3) (K18 k n1)
abbrev s3 : ST cx := ({ vars := [], scr := [], mems := [] } : ST cx)
noncomputable def u3 (k : Nat) : T3 := uK (run E h k c1) s3 (K3 k)
noncomputable abbrev l3 (k : Nat) : T3 := cutK (run E h k c1) s3 (K3 k)
abbrev s1 : Int → (List (List (Int))) → Int → D0 → ST cx := fun (x1 : Int) (x2 : List (List (Int))) (x7 : Int) (m3 : D0) => ({ vars := [(1, .v (.int .u8) .ro x1), (2, .v (.slice 24 (.slice 3 (.int .i64))) .ro x2), (3, .addr (.mem 3) []), (7, .v (.int .i64) .ro x7)], scr := [], mems := [(3, ⟨ty0, .ro, m3⟩)] } : ST cx)
noncomputable def u1 (k n1 : Nat) : T1 := fun (x1 : Int) (x2 : List (List (Int))) (x7 : Int) (m3 : D0) => uK (loopL E h k c3 (K7 k) n1) (s1 x1 x2 x7 m3) ()
noncomputable abbrev l1 (k n1 : Nat) : T1 := fun (x1 : Int) (x2 : List (List (Int))) (x7 : Int) (m3 : D0) => cutK (loopL E h k c3 (K7 k) n1) (s1 x1 x2 x7 m3) ()
noncomputable def u0 (k : Nat) : T0 := fun (x0 : D0) (x1 : Int) (x2 : List (List (Int))) => runOf (S := cx) E h k Try.f34 [.val ty0, .val (.int .u8), .val (.slice 24 (.slice 3 (.int .i64)))] .bool .ro (x0, x1, x2, ())
def t8 (f5 : T5) : T8 := fun (x1 : Int) (x2 : List (List (Int))) (x7 : Int) (x9 : List (Int)) (x10 : Int) (m3 : D0) => 
  (f5 x1 x2 x7 x9 (w64 (x10 + (1 : Int))) m3)
theorem e8 (k n1 n5 : Nat) : u8 k n1 n5 = t8 (l5 k n1 n5) := by kernel_rfl
theorem g8 (k n1 n5 : Nat) : l8 k n1 n5 = u8 k n1 n5 := funext fun _ => funext fun _ => funext fun _ => funext fun _ => funext fun _ => funext fun _ => cut_u _ _ _
theorem d8 {x5 y5 : T5} (h5 : x5 = y5) : t8 x5 = t8 y5 := by subst h5; rfl
def p8 (k : Nat) (a1 : T1) (a5 : T5) : T8 := t8 a5
theorem o8 (k n1 n5 : Nat) (a1 : T1) (a5 : T5) (h1 : l1 k n1 = a1) (h5 : l5 k n1 n5 = a5) : l8 k n1 n5 = p8 k a1 a5 := (Eq.trans (b := u8 k n1 n5) (g8 k n1 n5) (Eq.trans (b := t8 (l5 k n1 n5)) (e8 k n1 n5) (Eq.trans (b := t8 a5) (d8 h5) (by kernel_rfl))))
def t6 (f8 : T8) : T6 := fun (x1 : Int) (x2 : List (List (Int))) (x7 : Int) (x9 : List (Int)) (x10 : Int) (x66 : Bool) (m3 : D0) => 
  (iteB x66 (some (false, ())) (f8 x1 x2 x7 x9 x10 m3))
theorem e6 (k n1 n5 : Nat) : u6 k n1 n5 = t6 (l8 k n1 n5) := by kernel_rfl
theorem g6 (k n1 n5 : Nat) : l6 k n1 n5 = u6 k n1 n5 := funext fun _ => funext fun _ => funext fun _ => funext fun _ => funext fun _ => funext fun _ => funext fun _ => cut_u _ _ _
theorem d6 {x8 y8 : T8} (h8 : x8 = y8) : t6 x8 = t6 y8 := by subst h8; rfl
def p6 (k : Nat) (a1 : T1) (a5 : T5) : T6 := t6 (p8 k a1 a5)
theorem o6 (k n1 n5 : Nat) (a1 : T1) (a5 : T5) (h1 : l1 k n1 = a1) (h5 : l5 k n1 n5 = a5) : l6 k n1 n5 = p6 k a1 a5 := (Eq.trans (b := u6 k n1 n5) (g6 k n1 n5) (Eq.trans (b := t6 (l8 k n1 n5)) (e6 k n1 n5) (Eq.trans (b := t6 (p8 k a1 a5)) (d6 (o8 k n1 n5 a1 a5 h1 h5)) (by kernel_rfl))))
def t10 (f1 : T1) : T10 := fun (x1 : Int) (x2 : List (List (Int))) (x7 : Int) (m3 : D0) => 
  (f1 x1 x2 (w64 (x7 + (1 : Int))) m3)
theorem e10 (k n1 : Nat) : u10 k n1 = t10 (l1 k n1) := by kernel_rfl
theorem g10 (k n1 : Nat) : l10 k n1 = u10 k n1 := funext fun _ => funext fun _ => funext fun _ => funext fun _ => cut_u _ _ _
theorem d10 {x1 y1 : T1} (h1 : x1 = y1) : t10 x1 = t10 y1 := by subst h1; rfl
def p10 (k : Nat) (a1 : T1) : T10 := t10 a1
theorem o10 (k n1 : Nat) (a1 : T1) (h1 : l1 k n1 = a1) : l10 k n1 = p10 k a1 := (Eq.trans (b := u10 k n1) (g10 k n1) (Eq.trans (b := t10 (l1 k n1)) (e10 k n1) (Eq.trans (b := t10 a1) (d10 h1) (by kernel_rfl))))
def t9 (f10 : T10) : T9 := fun (x1 : Int) (x2 : List (List (Int))) (x7 : Int) (x84 : Bool) (m3 : D0) => 
  (iteB x84 (some (false, ())) (f10 x1 x2 x7 m3))
theorem e9 (k n1 : Nat) : u9 k n1 = t9 (l10 k n1) := by kernel_rfl
theorem g9 (k n1 : Nat) : l9 k n1 = u9 k n1 := funext fun _ => funext fun _ => funext fun _ => funext fun _ => funext fun _ => cut_u _ _ _
theorem d9 {x10 y10 : T10} (h10 : x10 = y10) : t9 x10 = t9 y10 := by subst h10; rfl
def p9 (k : Nat) (a1 : T1) : T9 := t9 (p10 k a1)
theorem o9 (k n1 : Nat) (a1 : T1) (h1 : l1 k n1 = a1) : l9 k n1 = p9 k a1 := (Eq.trans (b := u9 k n1) (g9 k n1) (Eq.trans (b := t9 (l10 k n1)) (e9 k n1) (Eq.trans (b := t9 (p10 k a1)) (d9 (o10 k n1 a1 h1)) (by kernel_rfl))))
def t7 (f9 : T9) : T7 := fun (x1 : Int) (x2 : List (List (Int))) (x7 : Int) (x9 : List (Int)) (m3 : D0) => 
  (bindR (s_ref11_Note (m3, (x1, (x9, ())))) fun r7 => (iteB (notB r7.1.2) (f9 x1 x2 x7 true m3) (withinR x7 (List.length x2) fun q8 => (bindR (s_ref11_Ints (r7.1.1, ((List.getD x2 q8 ([] : List (Int))), ()))) fun r9 => (f9 x1 x2 x7 (notB r9.1) m3)))))
theorem e7 (k n1 : Nat) : u7 k n1 = t7 (l9 k n1) := by kernel_rfl
theorem g7 (k n1 : Nat) : l7 k n1 = u7 k n1 := funext fun _ => funext fun _ => funext fun _ => funext fun _ => funext fun _ => cut_u _ _ _
theorem d7 {x9 y9 : T9} (h9 : x9 = y9) : t7 x9 = t7 y9 := by subst h9; rfl
def p7 (k : Nat) (a1 : T1) : T7 := t7 (p9 k a1)
theorem o7 (k n1 : Nat) (a1 : T1) (h1 : l1 k n1 = a1) : l7 k n1 = p7 k a1 := (Eq.trans (b := u7 k n1) (g7 k n1) (Eq.trans (b := t7 (l9 k n1)) (e7 k n1) (Eq.trans (b := t7 (p9 k a1)) (d7 (o9 k n1 a1 h1)) (by kernel_rfl))))
def t5 (f6 : T6) (f7 : T7) : T5 := fun (x1 : Int) (x2 : List (List (Int))) (x7 : Int) (x9 : List (Int)) (x10 : Int) (m3 : D0) => 
  (iteB (decide (x10 < ((List.length x9 : Nat) : Int))) (withinR x10 (List.length x9) fun q5 => (iteB (decide ((List.getD x9 q5 (0 : Int)) < (0 : Int))) (f6 x1 x2 x7 x9 x10 true m3) (withinR x10 (List.length x9) fun q6 => (f6 x1 x2 x7 x9 x10 (decide (((List.length m3.1 : Nat) : Int) ≤ (List.getD x9 q6 (0 : Int)))) m3)))) (f7 x1 x2 x7 x9 m3))
theorem e5 (k n1 n5 : Nat) : u5 k n1 (n5 + 1) = t5 (l6 k n1 n5) (l7 k n1) := by kernel_rfl
theorem g5 (k n1 n5 : Nat) : l5 k n1 (n5 + 1) = u5 k n1 (n5 + 1) := funext fun _ => funext fun _ => funext fun _ => funext fun _ => funext fun _ => funext fun _ => cut_u _ _ _
theorem d5 {x6 y6 : T6} {x7 y7 : T7} (h6 : x6 = y6) (h7 : x7 = y7) : t5 x6 x7 = t5 y6 y7 := by subst h6; subst h7; rfl
def p5 (k : Nat) (a1 : T1) : Nat → T5
  | 0 => fun _ _ _ _ _ _ => none
  | n5 + 1 => t5 (p6 k a1 (p5 k a1 n5)) (p7 k a1)
theorem o5 (k n1 : Nat) (a1 : T1) (h1 : l1 k n1 = a1) : ∀ n5, l5 k n1 n5 = p5 k a1 n5 := by
  intro n5
  induction n5 with
  | zero => kernel_rfl
  | succ n5 ih => exact (Eq.trans (b := u5 k n1 (n5 + 1)) (g5 k n1 n5) (Eq.trans (b := t5 (l6 k n1 n5) (l7 k n1)) (e5 k n1 n5) (Eq.trans (b := t5 (p6 k a1 (p5 k a1 n5)) (p7 k a1)) (d5 (o6 k n1 n5 a1 (p5 k a1 n5) h1 ih) (o7 k n1 a1 h1)) (by kernel_rfl))))
def t4 (f5 : T5) : T4 := fun (x1 : Int) (x2 : List (List (Int))) (x7 : Int) (x9 : List (Int)) (m3 : D0) => 
  (f5 x1 x2 x7 x9 (0 : Int) m3)
theorem e4 (k n1 : Nat) : u4 k n1 = t4 (l5 k n1 k) := by kernel_rfl
theorem g4 (k n1 : Nat) : l4 k n1 = u4 k n1 := funext fun _ => funext fun _ => funext fun _ => funext fun _ => funext fun _ => cut_u _ _ _
theorem d4 {x5 y5 : T5} (h5 : x5 = y5) : t4 x5 = t4 y5 := by subst h5; rfl
def p4 (k : Nat) (a1 : T1) : T4 := t4 (p5 k a1 k)
theorem o4 (k n1 : Nat) (a1 : T1) (h1 : l1 k n1 = a1) : l4 k n1 = p4 k a1 := (Eq.trans (b := u4 k n1) (g4 k n1) (Eq.trans (b := t4 (l5 k n1 k)) (e4 k n1) (Eq.trans (b := t4 (p5 k a1 k)) (d4 (o5 k n1 a1 h1 k)) (by kernel_rfl))))
def t2 (f4 : T4) : T2 := fun (x1 : Int) (x2 : List (List (Int))) (x7 x8 : Int) (m3 : D0) => 
  (withinR x7 (List.length x2) fun q1 => (iteB (!decide (((List.length (List.getD x2 q1 ([] : List (Int))) : Nat) : Int) = x8)) (some (false, ())) (withinR x7 (List.length x2) fun q2 => (mustR (decide (0 ≤ (1 : Int))) (mustR (decide ((1 : Int) ≤ (((List.length (List.getD x2 q2 ([] : List (Int)))) : Nat) : Int))) (iteB (decide (x1 = (1 : Int))) (withinR x7 (List.length x2) fun q3 => (mustR (decide (0 ≤ (3 : Int))) (mustR (decide ((3 : Int) ≤ (((List.length (List.getD x2 q3 ([] : List (Int)))) : Nat) : Int))) (withinR (2 : Int) (List.length (List.drop 0 (List.take (Int.toNat (3 : Int)) (List.getD x2 q3 ([] : List (Int)))))) fun q4 => (iteB (decide ((List.getD (List.drop 0 (List.take (Int.toNat (3 : Int)) (List.getD x2 q3 ([] : List (Int))))) q4 (0 : Int)) = (-1 : Int))) (mustR (decide (0 ≤ (2 : Int))) (mustR (decide ((2 : Int) ≤ (((List.length (List.drop 0 (List.take (Int.toNat (3 : Int)) (List.getD x2 q3 ([] : List (Int)))))) : Nat) : Int))) (f4 x1 x2 x7 (List.drop 0 (List.take (Int.toNat (2 : Int)) (List.drop 0 (List.take (Int.toNat (3 : Int)) (List.getD x2 q3 ([] : List (Int))))))) m3))) (f4 x1 x2 x7 (List.drop 0 (List.take (Int.toNat (3 : Int)) (List.getD x2 q3 ([] : List (Int))))) m3)))))) (f4 x1 x2 x7 (List.drop (Int.toNat (1 : Int)) (List.take (List.length (List.getD x2 q2 ([] : List (Int)))) (List.getD x2 q2 ([] : List (Int))))) m3)))))))
theorem e2 (k n1 : Nat) : u2 k n1 = t2 (l4 k n1) := by kernel_rfl
theorem g2 (k n1 : Nat) : l2 k n1 = u2 k n1 := funext fun _ => funext fun _ => funext fun _ => funext fun _ => funext fun _ => cut_u _ _ _
theorem d2 {x4 y4 : T4} (h4 : x4 = y4) : t2 x4 = t2 y4 := by subst h4; rfl
def p2 (k : Nat) (a1 : T1) : T2 := t2 (p4 k a1)
theorem o2 (k n1 : Nat) (a1 : T1) (h1 : l1 k n1 = a1) : l2 k n1 = p2 k a1 := (Eq.trans (b := u2 k n1) (g2 k n1) (Eq.trans (b := t2 (l4 k n1)) (e2 k n1) (Eq.trans (b := t2 (p4 k a1)) (d2 (o4 k n1 a1 h1)) (by kernel_rfl))))
def t3 : T3 := 
  (some (true, ()))
theorem e3 (k : Nat) : u3 k = t3 := by kernel_rfl
theorem g3 (k : Nat) : l3 k = u3 k := cut_u _ _ _
def p3 (k : Nat) : T3 := t3
theorem o3 (k : Nat) : l3 k = p3 k := (Eq.trans (b := u3 k) (g3 k) (Eq.trans (b := t3) (e3 k) (by kernel_rfl)))
def t1 (f2 : T2) (f3 : T3) : T1 := fun (x1 : Int) (x2 : List (List (Int))) (x7 : Int) (m3 : D0) => 
  (iteB (decide (x7 < ((List.length x2 : Nat) : Int))) (iteB (decide (x1 = (3 : Int))) (f2 x1 x2 x7 (3 : Int) m3) (f2 x1 x2 x7 (5 : Int) m3)) f3)
theorem e1 (k n1 : Nat) : u1 k (n1 + 1) = t1 (l2 k n1) (l3 k) := by kernel_rfl
theorem g1 (k n1 : Nat) : l1 k (n1 + 1) = u1 k (n1 + 1) := funext fun _ => funext fun _ => funext fun _ => funext fun _ => cut_u _ _ _
theorem d1 {x2 y2 : T2} {x3 y3 : T3} (h2 : x2 = y2) (h3 : x3 = y3) : t1 x2 x3 = t1 y2 y3 := by subst h2; subst h3; rfl
def p1 (k : Nat) : Nat → T1
  | 0 => fun _ _ _ _ => none
  | n1 + 1 => t1 (p2 k (p1 k n1)) (p3 k)
theorem o1 (k : Nat) : ∀ n1, l1 k n1 = p1 k n1 := by
  intro n1
  induction n1 with
  | zero => kernel_rfl
  | succ n1 ih => exact (Eq.trans (b := u1 k (n1 + 1)) (g1 k n1) (Eq.trans (b := t1 (l2 k n1) (l3 k)) (e1 k n1) (Eq.trans (b := t1 (p2 k (p1 k n1)) (p3 k)) (d1 (o2 k n1 (p1 k n1) ih) (o3 k)) (by kernel_rfl))))
def t0 (f1 : T1) : T0 := fun (x0 : D0) (x1 : Int) (x2 : List (List (Int))) => 
  (f1 x1 x2 (0 : Int) x0)
theorem e0 (k : Nat) : u0 k = t0 (l1 k k) := by kernel_rfl
theorem d0 {x1 y1 : T1} (h1 : x1 = y1) : t0 x1 = t0 y1 := by subst h1; rfl
def p0 (k : Nat) : T0 := t0 (p1 k k)
theorem o0 (k : Nat) : u0 k = p0 k := (Eq.trans (b := t0 (l1 k k)) (e0 k) (Eq.trans (b := t0 (p1 k k)) (d0 (o1 k k)) (by kernel_rfl)))
end ref11_noted
def s_ref11_noted (a : (D0) × ((Int) × ((List (List (Int))) × (Unit)))) : Option ((Bool) × (Unit)) := ref11_noted.p0 (fuel) a.1 a.2.1 a.2.2.1
noncomputable def F_ref11_noted : FSpec cx.toNm := { ps := [.val ty0, .val (.int .u8), .val (.slice 24 (.slice 3 (.int .i64)))], nres := 1, rt := .bool, rm := .ro, f := s_ref11_noted }
theorem w_ref11_noted (a : (D0) × ((Int) × ((List (List (Int))) × (Unit)))) : runOf (S := cx) ref11_noted.E ref11_noted.h (fuel) Try.f34 F_ref11_noted.ps F_ref11_noted.rt F_ref11_noted.rm a = s_ref11_noted a := Eq.trans (b := ref11_noted.u0 (fuel) a.1 a.2.1 a.2.2.1) (by kernel_rfl) (Eq.trans (b := ref11_noted.p0 (fuel) a.1 a.2.1 a.2.2.1) (congrFun (congrFun (congrFun (ref11_noted.o0 (fuel)) a.1) a.2.1) a.2.2.1) (by kernel_rfl))
theorem ok_ref11_noted : FnOk Try.prog F_ref11_noted 34 := fn_of (F := F_ref11_noted) (hn := ref11_noted.h) (E := ref11_noted.E) cxOk (tysT _ _ _) (fs_cons ok_ref11_Note (fs_cons ok_ref11_Ints fs_nil)) follows Try.func34 (by kernel_rfl) (fun a r h => ⟨fuel, Eq.trans (w_ref11_noted a) h⟩)
namespace ref11_Right
noncomputable def E : Env cx := { tys := tys, fs := fsOf [(33, F_ref11_Useful), (34, F_ref11_noted)] }
abbrev R := Option ((Bool) × (Unit))
abbrev C := Exit → ST cx → R
noncomputable def b : Code := bodyC Try.f12
noncomputable def h : Hint := { vs := [0, 1, 2, 3, 4, 5, 6, 7], nil := [], cuts := [(3, ([1, 3, 57], [1]), ([1, 3], [1])), (4, ([1, 3], [1]), ([1, 3], [1])), (5, ([1, 3, 4], [1]), ([1], [1])), (6, ([1, 3, 4], [1]), ([1, 3, 4], [1])), (9, ([1, 3, 4, 5, 86], [1, 5]), ([1, 3, 4, 5], [1, 5])), (10, ([1, 3, 4, 5], [1, 5]), ([1, 3, 4], [1])), (11, ([1, 3, 4, 5, 6], [1, 5]), ([1, 3, 4], [1])), (12, ([1, 3, 4, 5, 6], [1, 5]), ([1, 3, 4, 5, 6], [1, 5])), (14, ([1, 3, 4, 5, 6, 118], [1, 5]), ([1, 3, 4, 5, 6], [1, 5])), (15, ([1], [1]), ([1], [1])), (18, ([1, 7], [1]), ([1], [1])), (19, ([1, 7], [1]), ([1, 7], [1])), (21, ([1, 7, 144], [1]), ([1, 7], [1])), (22, ([1], [1]), ([1], [1]))], ret := ([2], [1, 5]), ords := [] }
noncomputable def K0 : C := fin (S := cx) E Try.f12.results.toList .bool .ro [] []
noncomputable def c0 : Code := subC b [1]
noncomputable def K1 (k : Nat) : C := outD h c0 K0
noncomputable def K2 (k : Nat) : C := seqC E h k c0 K0
noncomputable def c1 : Code := subC b [1, 1]
noncomputable def K3 (k : Nat) : C := outD h c1 (K1 k)
noncomputable def K4 (k : Nat) : C := seqC E h k c1 (K1 k)
noncomputable def c2 : Code := subC b [1, 1, 1]
noncomputable def K5 (k : Nat) : C := outD h c2 (K3 k)
noncomputable def K6 (k : Nat) : C := seqC E h k c2 (K3 k)
noncomputable def c3 : Code := subC b [1, 1, 0, 1]
noncomputable def K7 (k : Nat) : C := outD h c3 (K6 k)
noncomputable def K8 (k : Nat) : C := seqC E h k c3 (K6 k)
noncomputable def c4 : Code := subC b [1, 1, 0, 1, 0, 1]
noncomputable def K9 (k : Nat) : C := outD h c4 (K7 k)
noncomputable def K10 (k : Nat) : C := seqC E h k c4 (K7 k)
noncomputable def c5 : Code := subC b [1, 1, 1, 1]
noncomputable def K11 (k : Nat) : C := outD h c5 (K5 k)
noncomputable def K12 (k : Nat) : C := seqC E h k c5 (K5 k)
noncomputable def c6 : Code := subC b [1, 1, 1, 0, 1]
noncomputable def K13 (k : Nat) : C := outD h c6 (K12 k)
noncomputable def K14 (k : Nat) : C := seqC E h k c6 (K12 k)
noncomputable def K15 (k : Nat) : C := blockK 0 (K13 k)
noncomputable def c7 : Code := subC b [1, 1, 1, 0, 1, 0, 0]
noncomputable def K16 (k n3 : Nat) : C := loopD E h k c7 (K15 k) n3
noncomputable def c8 : Code := subC b [1, 1, 1, 0, 1, 0, 0, 1]
noncomputable def K17 (k n3 : Nat) : C := outD h c8 (K16 k n3)
noncomputable def K18 (k n3 : Nat) : C := seqC E h k c8 (K16 k n3)
noncomputable def c9 : Code := subC b [1, 1, 1, 0, 1, 0, 0, 0, 1]
noncomputable def K19 (k n3 : Nat) : C := outD h c9 (K18 k n3)
noncomputable def K20 (k n3 : Nat) : C := seqC E h k c9 (K18 k n3)
noncomputable def c10 : Code := subC b [1, 1, 1, 0, 1, 0, 0, 1, 1]
noncomputable def K21 (k n3 : Nat) : C := outD h c10 (K17 k n3)
noncomputable def K22 (k n3 : Nat) : C := seqC E h k c10 (K17 k n3)
noncomputable def K23 (k n3 : Nat) : C := blockK 1 (K22 k n3)
noncomputable def c11 : Code := subC b [1, 1, 1, 0, 1, 0, 0, 1, 0, 0, 1]
noncomputable def K24 (k n3 : Nat) : C := outD h c11 (K23 k n3)
noncomputable def K25 (k n3 : Nat) : C := seqC E h k c11 (K23 k n3)
noncomputable def c12 : Code := subC b [1, 1, 1, 0, 1, 0, 0, 1, 0, 0, 1, 1]
noncomputable def K26 (k n3 : Nat) : C := outD h c12 (K24 k n3)
noncomputable def K27 (k n3 : Nat) : C := seqC E h k c12 (K24 k n3)
noncomputable def c13 : Code := subC b [1, 1, 1, 0, 1, 0, 0, 1, 0, 0, 1, 0, 1]
noncomputable def K28 (k n3 : Nat) : C := outD h c13 (K27 k n3)
noncomputable def K29 (k n3 : Nat) : C := seqC E h k c13 (K27 k n3)
noncomputable def c14 : Code := subC b [1, 1, 1, 0, 1, 0, 0, 1, 0, 0, 1, 0, 1, 0, 1]
noncomputable def K30 (k n3 : Nat) : C := outD h c14 (K28 k n3)
noncomputable def K31 (k n3 : Nat) : C := seqC E h k c14 (K28 k n3)
noncomputable def c15 : Code := subC b [1, 1, 1, 0, 1, 0, 0, 1, 0, 0, 1, 1, 1]
noncomputable def K32 (k n3 : Nat) : C := outD h c15 (K26 k n3)
noncomputable def K33 (k n3 : Nat) : C := seqC E h k c15 (K26 k n3)
noncomputable def K34 (k n3 : Nat) : C := blockK 2 (K32 k n3)
noncomputable def c16 : Code := subC b [1, 1, 1, 0, 1, 0, 0, 1, 0, 0, 1, 1, 1, 0, 0]
noncomputable def K35 (k n3 n7 : Nat) : C := loopD E h k c16 (K34 k n3) n7
noncomputable def c17 : Code := subC b [1, 1, 1, 0, 1, 0, 0, 1, 0, 0, 1, 1, 1, 0, 0, 1]
noncomputable def K36 (k n3 n7 : Nat) : C := outD h c17 (K35 k n3 n7)
noncomputable def K37 (k n3 n7 : Nat) : C := seqC E h k c17 (K35 k n3 n7)
noncomputable def c18 : Code := subC b [1, 1, 1, 0, 1, 0, 0, 1, 0, 0, 1, 1, 1, 0, 0, 0, 1]
noncomputable def K38 (k n3 n7 : Nat) : C := outD h c18 (K37 k n3 n7)
noncomputable def K39 (k n3 n7 : Nat) : C := seqC E h k c18 (K37 k n3 n7)
noncomputable def c19 : Code := subC b [1, 1, 1, 0, 1, 0, 0, 1, 0, 0, 1, 1, 1, 0, 0, 1, 1]
noncomputable def K40 (k n3 n7 : Nat) : C := outD h c19 (K36 k n3 n7)
noncomputable def K41 (k n3 n7 : Nat) : C := seqC E h k c19 (K36 k n3 n7)
noncomputable def K42 (k n3 n7 : Nat) : C := blockK 3 (K41 k n3 n7)
noncomputable def c20 : Code := subC b [1, 1, 1, 0, 1, 0, 0, 1, 0, 0, 1, 1, 1, 0, 0, 1, 0, 0, 1]
noncomputable def K43 (k n3 n7 : Nat) : C := outD h c20 (K42 k n3 n7)
noncomputable def K44 (k n3 n7 : Nat) : C := seqC E h k c20 (K42 k n3 n7)
noncomputable def c21 : Code := subC b [1, 1, 1, 0, 1, 0, 0, 1, 0, 0, 1, 1, 1, 0, 0, 1, 0, 0, 1, 0, 1]
noncomputable def K45 (k n3 n7 : Nat) : C := outD h c21 (K43 k n3 n7)
noncomputable def K46 (k n3 n7 : Nat) : C := seqC E h k c21 (K43 k n3 n7)
noncomputable def c22 : Code := subC b [1, 1, 1, 1, 1]
noncomputable def K47 (k : Nat) : C := outD h c22 (K11 k)
noncomputable def K48 (k : Nat) : C := seqC E h k c22 (K11 k)
noncomputable def c23 : Code := subC b [1, 1, 1, 1, 0, 1]
noncomputable def K49 (k : Nat) : C := outD h c23 (K48 k)
noncomputable def K50 (k : Nat) : C := seqC E h k c23 (K48 k)
noncomputable def c24 : Code := subC b [1, 1, 1, 1, 0, 1, 0, 1]
noncomputable def K51 (k : Nat) : C := outD h c24 (K49 k)
noncomputable def K52 (k : Nat) : C := seqC E h k c24 (K49 k)
noncomputable def c25 : Code := subC b [1, 1, 1, 1, 1, 1]
noncomputable def K53 (k : Nat) : C := outD h c25 (K47 k)
noncomputable def K54 (k : Nat) : C := seqC E h k c25 (K47 k)
noncomputable def c26 : Code := subC b [1, 1, 1, 1, 1, 0, 1]
noncomputable def K55 (k : Nat) : C := outD h c26 (K54 k)
noncomputable def K56 (k : Nat) : C := seqC E h k c26 (K54 k)
noncomputable def K57 (k : Nat) : C := blockK 4 (K55 k)
noncomputable def c27 : Code := subC b [1, 1, 1, 1, 1, 0, 1, 0, 0]
noncomputable def K58 (k n11 : Nat) : C := loopD E h k c27 (K57 k) n11
noncomputable def c28 : Code := subC b [1, 1, 1, 1, 1, 0, 1, 0, 0, 1]
noncomputable def K59 (k n11 : Nat) : C := outD h c28 (K58 k n11)
noncomputable def K60 (k n11 : Nat) : C := seqC E h k c28 (K58 k n11)
noncomputable def c29 : Code := subC b [1, 1, 1, 1, 1, 0, 1, 0, 0, 0, 1]
noncomputable def K61 (k n11 : Nat) : C := outD h c29 (K60 k n11)
noncomputable def K62 (k n11 : Nat) : C := seqC E h k c29 (K60 k n11)
noncomputable def c30 : Code := subC b [1, 1, 1, 1, 1, 0, 1, 0, 0, 1, 1]
noncomputable def K63 (k n11 : Nat) : C := outD h c30 (K59 k n11)
noncomputable def K64 (k n11 : Nat) : C := seqC E h k c30 (K59 k n11)
noncomputable def K65 (k n11 : Nat) : C := blockK 5 (K64 k n11)
noncomputable def c31 : Code := subC b [1, 1, 1, 1, 1, 0, 1, 0, 0, 1, 0, 0, 1]
noncomputable def K66 (k n11 : Nat) : C := outD h c31 (K65 k n11)
noncomputable def K67 (k n11 : Nat) : C := seqC E h k c31 (K65 k n11)
noncomputable def c32 : Code := subC b [1, 1, 1, 1, 1, 0, 1, 0, 0, 1, 0, 0, 1, 0, 1]
noncomputable def K68 (k n11 : Nat) : C := outD h c32 (K66 k n11)
noncomputable def K69 (k n11 : Nat) : C := seqC E h k c32 (K66 k n11)
noncomputable def c33 : Code := subC b [1, 1, 1, 1, 1, 1, 1]
noncomputable def K70 (k : Nat) : C := outD h c33 (K53 k)
noncomputable def K71 (k : Nat) : C := seqC E h k c33 (K53 k)
abbrev T10 := Int → Int → Int → D0 → ((Int) × (List (Int))) → R
abbrev T8 := Int → Int → Int → Bool → D0 → ((Int) × (List (Int))) → R
abbrev T9 := Int → Int → D0 → R
abbrev T7 := Int → Int → Int → D0 → ((Int) × (List (Int))) → R
abbrev T6 := Int → Int → D0 → ((Int) × (List (Int))) → R
abbrev T4 := Int → Int → Bool → D0 → ((Int) × (List (Int))) → R
abbrev T14 := Int → D0 → R
abbrev T12 := Int → Bool → D0 → R
abbrev T13 := D0 → R
abbrev T11 := Int → D0 → R
abbrev T5 := D0 → R
abbrev T3 := Int → Int → D0 → R
abbrev T2 := Int → D0 → R
abbrev T1 := Int → Bool → D0 → R
abbrev T0 := D0 → R
abbrev s10 : Int → Int → Int → D0 → ((Int) × (List (Int))) → ST cx := fun (x3 x4 x6 : Int) (m1 : D0) (m5 : (Int) × (List (Int))) => ({ vars := [(1, .addr (.mem 1) []), (3, .v (.int .i64) .ro x3), (4, .v (.int .i64) .ro x4), (5, .addr (.mem 5) []), (6, .v (.int .i64) .ro x6)], scr := [], mems := [(1, ⟨ty0, .ro, m1⟩), (5, ⟨(.agg (.pair (.int .i64) (.slice 3 (.int .i64)))), .ro, m5⟩)] } : ST cx)
noncomputable def u10 (k n3 n7 : Nat) : T10 := fun (x3 x4 x6 : Int) (m1 : D0) (m5 : (Int) × (List (Int))) => uK (run E h k c19) (s10 x3 x4 x6 m1 m5) (K40 k n3 n7)
noncomputable abbrev l10 (k n3 n7 : Nat) : T10 := fun (x3 x4 x6 : Int) (m1 : D0) (m5 : (Int) × (List (Int))) => cutK (run E h k c19) (s10 x3 x4 x6 m1 m5) (K40 k n3 n7)
abbrev s8 : Int → Int → Int → Bool → D0 → ((Int) × (List (Int))) → ST cx := fun (x3 x4 x6 : Int) (x118 : Bool) (m1 : D0) (m5 : (Int) × (List (Int))) => ({ vars := [(1, .addr (.mem 1) []), (3, .v (.int .i64) .ro x3), (4, .v (.int .i64) .ro x4), (5, .addr (.mem 5) []), (6, .v (.int .i64) .ro x6), (118, .v .bool .ro x118)], scr := [], mems := [(1, ⟨ty0, .ro, m1⟩), (5, ⟨(.agg (.pair (.int .i64) (.slice 3 (.int .i64)))), .ro, m5⟩)] } : ST cx)
noncomputable def u8 (k n3 n7 : Nat) : T8 := fun (x3 x4 x6 : Int) (x118 : Bool) (m1 : D0) (m5 : (Int) × (List (Int))) => uK (run E h k c20) (s8 x3 x4 x6 x118 m1 m5) (K43 k n3 n7)
noncomputable abbrev l8 (k n3 n7 : Nat) : T8 := fun (x3 x4 x6 : Int) (x118 : Bool) (m1 : D0) (m5 : (Int) × (List (Int))) => cutK (run E h k c20) (s8 x3 x4 x6 x118 m1 m5) (K43 k n3 n7)
abbrev s9 : Int → Int → D0 → ST cx := fun (x3 x4 : Int) (m1 : D0) => ({ vars := [(1, .addr (.mem 1) []), (3, .v (.int .i64) .ro x3), (4, .v (.int .i64) .ro x4)], scr := [], mems := [(1, ⟨ty0, .ro, m1⟩)] } : ST cx)
noncomputable def u9 (k n3 : Nat) : T9 := fun (x3 x4 : Int) (m1 : D0) => uK (run E h k c10) (s9 x3 x4 m1) (K21 k n3)
noncomputable abbrev l9 (k n3 : Nat) : T9 := fun (x3 x4 : Int) (m1 : D0) => cutK (run E h k c10) (s9 x3 x4 m1) (K21 k n3)
abbrev s7 : Int → Int → Int → D0 → ((Int) × (List (Int))) → ST cx := fun (x3 x4 x6 : Int) (m1 : D0) (m5 : (Int) × (List (Int))) => ({ vars := [(1, .addr (.mem 1) []), (3, .v (.int .i64) .ro x3), (4, .v (.int .i64) .ro x4), (5, .addr (.mem 5) []), (6, .v (.int .i64) .ro x6)], scr := [], mems := [(1, ⟨ty0, .ro, m1⟩), (5, ⟨(.agg (.pair (.int .i64) (.slice 3 (.int .i64)))), .ro, m5⟩)] } : ST cx)
noncomputable def u7 (k n3 n7 : Nat) : T7 := fun (x3 x4 x6 : Int) (m1 : D0) (m5 : (Int) × (List (Int))) => uK (loopL E h k c16 (K34 k n3) n7) (s7 x3 x4 x6 m1 m5) ()
noncomputable abbrev l7 (k n3 n7 : Nat) : T7 := fun (x3 x4 x6 : Int) (m1 : D0) (m5 : (Int) × (List (Int))) => cutK (loopL E h k c16 (K34 k n3) n7) (s7 x3 x4 x6 m1 m5) ()
abbrev s6 : Int → Int → D0 → ((Int) × (List (Int))) → ST cx := fun (x3 x4 : Int) (m1 : D0) (m5 : (Int) × (List (Int))) => ({ vars := [(1, .addr (.mem 1) []), (3, .v (.int .i64) .ro x3), (4, .v (.int .i64) .ro x4), (5, .addr (.mem 5) [])], scr := [], mems := [(1, ⟨ty0, .ro, m1⟩), (5, ⟨(.agg (.pair (.int .i64) (.slice 3 (.int .i64)))), .ro, m5⟩)] } : ST cx)
noncomputable def u6 (k n3 : Nat) : T6 := fun (x3 x4 : Int) (m1 : D0) (m5 : (Int) × (List (Int))) => uK (run E h k c12) (s6 x3 x4 m1 m5) (K26 k n3)
noncomputable abbrev l6 (k n3 : Nat) : T6 := fun (x3 x4 : Int) (m1 : D0) (m5 : (Int) × (List (Int))) => cutK (run E h k c12) (s6 x3 x4 m1 m5) (K26 k n3)
abbrev s4 : Int → Int → Bool → D0 → ((Int) × (List (Int))) → ST cx := fun (x3 x4 : Int) (x86 : Bool) (m1 : D0) (m5 : (Int) × (List (Int))) => ({ vars := [(1, .addr (.mem 1) []), (3, .v (.int .i64) .ro x3), (4, .v (.int .i64) .ro x4), (5, .addr (.mem 5) []), (86, .v .bool .ro x86)], scr := [], mems := [(1, ⟨ty0, .ro, m1⟩), (5, ⟨(.agg (.pair (.int .i64) (.slice 3 (.int .i64)))), .ro, m5⟩)] } : ST cx)
noncomputable def u4 (k n3 : Nat) : T4 := fun (x3 x4 : Int) (x86 : Bool) (m1 : D0) (m5 : (Int) × (List (Int))) => uK (run E h k c13) (s4 x3 x4 x86 m1 m5) (K28 k n3)
noncomputable abbrev l4 (k n3 : Nat) : T4 := fun (x3 x4 : Int) (x86 : Bool) (m1 : D0) (m5 : (Int) × (List (Int))) => cutK (run E h k c13) (s4 x3 x4 x86 m1 m5) (K28 k n3)
abbrev s14 : Int → D0 → ST cx := fun (x7 : Int) (m1 : D0) => ({ vars := [(1, .addr (.mem 1) []), (7, .v (.int .i64) .ro x7)], scr := [], mems := [(1, ⟨ty0, .ro, m1⟩)] } : ST cx)
noncomputable def u14 (k n11 : Nat) : T14 := fun (x7 : Int) (m1 : D0) => uK (run E h k c30) (s14 x7 m1) (K63 k n11)
noncomputable abbrev l14 (k n11 : Nat) : T14 := fun (x7 : Int) (m1 : D0) => cutK (run E h k c30) (s14 x7 m1) (K63 k n11)
abbrev s12 : Int → Bool → D0 → ST cx := fun (x7 : Int) (x144 : Bool) (m1 : D0) => ({ vars := [(1, .addr (.mem 1) []), (7, .v (.int .i64) .ro x7), (144, .v .bool .ro x144)], scr := [], mems := [(1, ⟨ty0, .ro, m1⟩)] } : ST cx)
noncomputable def u12 (k n11 : Nat) : T12 := fun (x7 : Int) (x144 : Bool) (m1 : D0) => uK (run E h k c31) (s12 x7 x144 m1) (K66 k n11)
noncomputable abbrev l12 (k n11 : Nat) : T12 := fun (x7 : Int) (x144 : Bool) (m1 : D0) => cutK (run E h k c31) (s12 x7 x144 m1) (K66 k n11)
abbrev s13 : D0 → ST cx := fun (m1 : D0) => ({ vars := [(1, .addr (.mem 1) [])], scr := [], mems := [(1, ⟨ty0, .ro, m1⟩)] } : ST cx)
noncomputable def u13 (k : Nat) : T13 := fun (m1 : D0) => uK (run E h k c25) (s13 m1) (K53 k)
noncomputable abbrev l13 (k : Nat) : T13 := fun (m1 : D0) => cutK (run E h k c25) (s13 m1) (K53 k)
abbrev s11 : Int → D0 → ST cx := fun (x7 : Int) (m1 : D0) => ({ vars := [(1, .addr (.mem 1) []), (7, .v (.int .i64) .ro x7)], scr := [], mems := [(1, ⟨ty0, .ro, m1⟩)] } : ST cx)
noncomputable def u11 (k n11 : Nat) : T11 := fun (x7 : Int) (m1 : D0) => uK (loopL E h k c27 (K57 k) n11) (s11 x7 m1) ()
noncomputable abbrev l11 (k n11 : Nat) : T11 := fun (x7 : Int) (m1 : D0) => cutK (loopL E h k c27 (K57 k) n11) (s11 x7 m1) ()
abbrev s5 : D0 → ST cx := fun (m1 : D0) => ({ vars := [(1, .addr (.mem 1) [])], scr := [], mems := [(1, ⟨ty0, .ro, m1⟩)] } : ST cx)
noncomputable def u5 (k : Nat) : T5 := fun (m1 : D0) => uK (run E h k c5) (s5 m1) (K11 k)
noncomputable abbrev l5 (k : Nat) : T5 := fun (m1 : D0) => cutK (run E h k c5) (s5 m1) (K11 k)
abbrev s3 : Int → Int → D0 → ST cx := fun (x3 x4 : Int) (m1 : D0) => ({ vars := [(1, .addr (.mem 1) []), (3, .v (.int .i64) .ro x3), (4, .v (.int .i64) .ro x4)], scr := [], mems := [(1, ⟨ty0, .ro, m1⟩)] } : ST cx)
noncomputable def u3 (k n3 : Nat) : T3 := fun (x3 x4 : Int) (m1 : D0) => uK (loopL E h k c7 (K15 k) n3) (s3 x3 x4 m1) ()
noncomputable abbrev l3 (k n3 : Nat) : T3 := fun (x3 x4 : Int) (m1 : D0) => cutK (loopL E h k c7 (K15 k) n3) (s3 x3 x4 m1) ()
abbrev s2 : Int → D0 → ST cx := fun (x3 : Int) (m1 : D0) => ({ vars := [(1, .addr (.mem 1) []), (3, .v (.int .i64) .ro x3)], scr := [], mems := [(1, ⟨ty0, .ro, m1⟩)] } : ST cx)
noncomputable def u2 (k : Nat) : T2 := fun (x3 : Int) (m1 : D0) => uK (run E h k c2) (s2 x3 m1) (K5 k)
noncomputable abbrev l2 (k : Nat) : T2 := fun (x3 : Int) (m1 : D0) => cutK (run E h k c2) (s2 x3 m1) (K5 k)
abbrev s1 : Int → Bool → D0 → ST cx := fun (x3 : Int) (x57 : Bool) (m1 : D0) => ({ vars := [(1, .addr (.mem 1) []), (3, .v (.int .i64) .ro x3), (57, .v .bool .ro x57)], scr := [], mems := [(1, ⟨ty0, .ro, m1⟩)] } : ST cx)
noncomputable def u1 (k : Nat) : T1 := fun (x3 : Int) (x57 : Bool) (m1 : D0) => uK (run E h k c3) (s1 x3 x57 m1) (K7 k)
noncomputable abbrev l1 (k : Nat) : T1 := fun (x3 : Int) (x57 : Bool) (m1 : D0) => cutK (run E h k c3) (s1 x3 x57 m1) (K7 k)
noncomputable def u0 (k : Nat) : T0 := fun (x0 : D0) => runOf (S := cx) E h k Try.f12 [.val ty0] .bool .ro (x0, ())
def t10 (f7 : T7) : T10 := fun (x3 x4 x6 : Int) (m1 : D0) (m5 : (Int) × (List (Int))) => 
  (f7 x3 x4 (w64 (x6 + (1 : Int))) m1 m5)
theorem e10 (k n3 n7 : Nat) : u10 k n3 n7 = t10 (l7 k n3 n7) := by kernel_rfl
theorem g10 (k n3 n7 : Nat) : l10 k n3 n7 = u10 k n3 n7 := funext fun _ => funext fun _ => funext fun _ => funext fun _ => funext fun _ => cut_u _ _ _
theorem d10 {x7 y7 : T7} (h7 : x7 = y7) : t10 x7 = t10 y7 := by subst h7; rfl
def p10 (k : Nat) (a3 : T3) (a7 : T7) : T10 := t10 a7
theorem o10 (k n3 n7 : Nat) (a3 : T3) (a7 : T7) (h3 : l3 k n3 = a3) (h7 : l7 k n3 n7 = a7) : l10 k n3 n7 = p10 k a3 a7 := (Eq.trans (b := u10 k n3 n7) (g10 k n3 n7) (Eq.trans (b := t10 (l7 k n3 n7)) (e10 k n3 n7) (Eq.trans (b := t10 a7) (d10 h7) (by kernel_rfl))))
def t8 (f10 : T10) : T8 := fun (x3 x4 x6 : Int) (x118 : Bool) (m1 : D0) (m5 : (Int) × (List (Int))) => 
  (iteB x118 (some (false, ())) (f10 x3 x4 x6 m1 m5))
theorem e8 (k n3 n7 : Nat) : u8 k n3 n7 = t8 (l10 k n3 n7) := by kernel_rfl
theorem g8 (k n3 n7 : Nat) : l8 k n3 n7 = u8 k n3 n7 := funext fun _ => funext fun _ => funext fun _ => funext fun _ => funext fun _ => funext fun _ => cut_u _ _ _
theorem d8 {x10 y10 : T10} (h10 : x10 = y10) : t8 x10 = t8 y10 := by subst h10; rfl
def p8 (k : Nat) (a3 : T3) (a7 : T7) : T8 := t8 (p10 k a3 a7)
theorem o8 (k n3 n7 : Nat) (a3 : T3) (a7 : T7) (h3 : l3 k n3 = a3) (h7 : l7 k n3 n7 = a7) : l8 k n3 n7 = p8 k a3 a7 := (Eq.trans (b := u8 k n3 n7) (g8 k n3 n7) (Eq.trans (b := t8 (l10 k n3 n7)) (e8 k n3 n7) (Eq.trans (b := t8 (p10 k a3 a7)) (d8 (o10 k n3 n7 a3 a7 h3 h7)) (by kernel_rfl))))
def t9 (f3 : T3) : T9 := fun (x3 x4 : Int) (m1 : D0) => 
  (f3 x3 (w64 (x4 + (1 : Int))) m1)
theorem e9 (k n3 : Nat) : u9 k n3 = t9 (l3 k n3) := by kernel_rfl
theorem g9 (k n3 : Nat) : l9 k n3 = u9 k n3 := funext fun _ => funext fun _ => funext fun _ => cut_u _ _ _
theorem d9 {x3 y3 : T3} (h3 : x3 = y3) : t9 x3 = t9 y3 := by subst h3; rfl
def p9 (k : Nat) (a3 : T3) : T9 := t9 a3
theorem o9 (k n3 : Nat) (a3 : T3) (h3 : l3 k n3 = a3) : l9 k n3 = p9 k a3 := (Eq.trans (b := u9 k n3) (g9 k n3) (Eq.trans (b := t9 (l3 k n3)) (e9 k n3) (Eq.trans (b := t9 a3) (d9 h3) (by kernel_rfl))))
def t7 (f8 : T8) (f9 : T9) : T7 := fun (x3 x4 x6 : Int) (m1 : D0) (m5 : (Int) × (List (Int))) => 
  (iteB (decide (x6 < ((List.length m5.2 : Nat) : Int))) (withinR x6 (List.length m5.2) fun q2 => (iteB (decide ((List.getD m5.2 q2 (0 : Int)) < (0 : Int))) (f8 x3 x4 x6 true m1 m5) (withinR x6 (List.length m5.2) fun q3 => (iteB (decide (x3 ≤ (List.getD m5.2 q3 (0 : Int)))) (f8 x3 x4 x6 true m1 m5) (withinR x6 (List.length m5.2) fun q4 => (f8 x3 x4 x6 (decide ((List.getD m5.2 q4 (0 : Int)) = m1.2.1)) m1 m5)))))) (f9 x3 x4 m1))
theorem e7 (k n3 n7 : Nat) : u7 k n3 (n7 + 1) = t7 (l8 k n3 n7) (l9 k n3) := by kernel_rfl
theorem g7 (k n3 n7 : Nat) : l7 k n3 (n7 + 1) = u7 k n3 (n7 + 1) := funext fun _ => funext fun _ => funext fun _ => funext fun _ => funext fun _ => cut_u _ _ _
theorem d7 {x8 y8 : T8} {x9 y9 : T9} (h8 : x8 = y8) (h9 : x9 = y9) : t7 x8 x9 = t7 y8 y9 := by subst h8; subst h9; rfl
def p7 (k : Nat) (a3 : T3) : Nat → T7
  | 0 => fun _ _ _ _ _ => none
  | n7 + 1 => t7 (p8 k a3 (p7 k a3 n7)) (p9 k a3)
theorem o7 (k n3 : Nat) (a3 : T3) (h3 : l3 k n3 = a3) : ∀ n7, l7 k n3 n7 = p7 k a3 n7 := by
  intro n7
  induction n7 with
  | zero => kernel_rfl
  | succ n7 ih => exact (Eq.trans (b := u7 k n3 (n7 + 1)) (g7 k n3 n7) (Eq.trans (b := t7 (l8 k n3 n7) (l9 k n3)) (e7 k n3 n7) (Eq.trans (b := t7 (p8 k a3 (p7 k a3 n7)) (p9 k a3)) (d7 (o8 k n3 n7 a3 (p7 k a3 n7) h3 ih) (o9 k n3 a3 h3)) (by kernel_rfl))))
def t6 (f7 : T7) : T6 := fun (x3 x4 : Int) (m1 : D0) (m5 : (Int) × (List (Int))) => 
  (f7 x3 x4 (0 : Int) m1 m5)
theorem e6 (k n3 : Nat) : u6 k n3 = t6 (l7 k n3 k) := by kernel_rfl
theorem g6 (k n3 : Nat) : l6 k n3 = u6 k n3 := funext fun _ => funext fun _ => funext fun _ => funext fun _ => cut_u _ _ _
theorem d6 {x7 y7 : T7} (h7 : x7 = y7) : t6 x7 = t6 y7 := by subst h7; rfl
def p6 (k : Nat) (a3 : T3) : T6 := t6 (p7 k a3 k)
theorem o6 (k n3 : Nat) (a3 : T3) (h3 : l3 k n3 = a3) : l6 k n3 = p6 k a3 := (Eq.trans (b := u6 k n3) (g6 k n3) (Eq.trans (b := t6 (l7 k n3 k)) (e6 k n3) (Eq.trans (b := t6 (p7 k a3 k)) (d6 (o7 k n3 a3 h3 k)) (by kernel_rfl))))
def t4 (f6 : T6) : T4 := fun (x3 x4 : Int) (x86 : Bool) (m1 : D0) (m5 : (Int) × (List (Int))) => 
  (iteB x86 (some (false, ())) (f6 x3 x4 m1 m5))
theorem e4 (k n3 : Nat) : u4 k n3 = t4 (l6 k n3) := by kernel_rfl
theorem g4 (k n3 : Nat) : l4 k n3 = u4 k n3 := funext fun _ => funext fun _ => funext fun _ => funext fun _ => funext fun _ => cut_u _ _ _
theorem d4 {x6 y6 : T6} (h6 : x6 = y6) : t4 x6 = t4 y6 := by subst h6; rfl
def p4 (k : Nat) (a3 : T3) : T4 := t4 (p6 k a3)
theorem o4 (k n3 : Nat) (a3 : T3) (h3 : l3 k n3 = a3) : l4 k n3 = p4 k a3 := (Eq.trans (b := u4 k n3) (g4 k n3) (Eq.trans (b := t4 (l6 k n3)) (e4 k n3) (Eq.trans (b := t4 (p6 k a3)) (d4 (o6 k n3 a3 h3)) (by kernel_rfl))))
def t14 (f11 : T11) : T14 := fun (x7 : Int) (m1 : D0) => 
  (f11 (w64 (x7 + (1 : Int))) m1)
theorem e14 (k n11 : Nat) : u14 k n11 = t14 (l11 k n11) := by kernel_rfl
theorem g14 (k n11 : Nat) : l14 k n11 = u14 k n11 := funext fun _ => funext fun _ => cut_u _ _ _
theorem d14 {x11 y11 : T11} (h11 : x11 = y11) : t14 x11 = t14 y11 := by subst h11; rfl
def p14 (k : Nat) (a11 : T11) : T14 := t14 a11
theorem o14 (k n11 : Nat) (a11 : T11) (h11 : l11 k n11 = a11) : l14 k n11 = p14 k a11 := (Eq.trans (b := u14 k n11) (g14 k n11) (Eq.trans (b := t14 (l11 k n11)) (e14 k n11) (Eq.trans (b := t14 a11) (d14 h11) (by kernel_rfl))))
def t12 (f14 : T14) : T12 := fun (x7 : Int) (x144 : Bool) (m1 : D0) => 
  (iteB x144 (some (false, ())) (f14 x7 m1))
theorem e12 (k n11 : Nat) : u12 k n11 = t12 (l14 k n11) := by kernel_rfl
theorem g12 (k n11 : Nat) : l12 k n11 = u12 k n11 := funext fun _ => funext fun _ => funext fun _ => cut_u _ _ _
theorem d12 {x14 y14 : T14} (h14 : x14 = y14) : t12 x14 = t12 y14 := by subst h14; rfl
def p12 (k : Nat) (a11 : T11) : T12 := t12 (p14 k a11)
theorem o12 (k n11 : Nat) (a11 : T11) (h11 : l11 k n11 = a11) : l12 k n11 = p12 k a11 := (Eq.trans (b := u12 k n11) (g12 k n11) (Eq.trans (b := t12 (l14 k n11)) (e12 k n11) (Eq.trans (b := t12 (p14 k a11)) (d12 (o14 k n11 a11 h11)) (by kernel_rfl))))
def t13 : T13 := fun (m1 : D0) => 
  (bindR (s_ref11_noted (m1, ((1 : Int), (m1.2.2.2.2.2.2.1, ())))) fun r8 => (iteB r8.1 (bindR (s_ref11_noted (m1, ((2 : Int), (m1.2.2.2.2.2.2.2.1, ())))) fun r9 => (iteB r9.1 (bindR (s_ref11_noted (m1, ((3 : Int), (m1.2.2.2.2.2.2.2.2, ())))) fun r10 => (some (r10.1, ()))) (some (false, ())))) (some (false, ()))))
theorem e13 (k : Nat) : u13 k = t13 := by kernel_rfl
theorem g13 (k : Nat) : l13 k = u13 k := funext fun _ => cut_u _ _ _
def p13 (k : Nat) : T13 := t13
theorem o13 (k : Nat) : l13 k = p13 k := (Eq.trans (b := u13 k) (g13 k) (Eq.trans (b := t13) (e13 k) (by kernel_rfl)))
def t11 (f12 : T12) (f13 : T13) : T11 := fun (x7 : Int) (m1 : D0) => 
  (iteB (decide (x7 < ((List.length m1.2.2.2.2.1 : Nat) : Int))) (withinR x7 (List.length m1.2.2.2.2.1) fun q6 => (iteB (decide ((List.getD m1.2.2.2.2.1 q6 (0 : Int)) < (-1 : Int))) (f12 x7 true m1) (withinR x7 (List.length m1.2.2.2.2.1) fun q7 => (f12 x7 (decide (m1.2.1 ≤ (List.getD m1.2.2.2.2.1 q7 (0 : Int)))) m1)))) (f13 m1))
theorem e11 (k n11 : Nat) : u11 k (n11 + 1) = t11 (l12 k n11) (l13 k) := by kernel_rfl
theorem g11 (k n11 : Nat) : l11 k (n11 + 1) = u11 k (n11 + 1) := funext fun _ => funext fun _ => cut_u _ _ _
theorem d11 {x12 y12 : T12} {x13 y13 : T13} (h12 : x12 = y12) (h13 : x13 = y13) : t11 x12 x13 = t11 y12 y13 := by subst h12; subst h13; rfl
def p11 (k : Nat) : Nat → T11
  | 0 => fun _ _ => none
  | n11 + 1 => t11 (p12 k (p11 k n11)) (p13 k)
theorem o11 (k : Nat) : ∀ n11, l11 k n11 = p11 k n11 := by
  intro n11
  induction n11 with
  | zero => kernel_rfl
  | succ n11 ih => exact (Eq.trans (b := u11 k (n11 + 1)) (g11 k n11) (Eq.trans (b := t11 (l12 k n11) (l13 k)) (e11 k n11) (Eq.trans (b := t11 (p12 k (p11 k n11)) (p13 k)) (d11 (o12 k n11 (p11 k n11) ih) (o13 k)) (by kernel_rfl))))
def t5 (f11 : T11) : T5 := fun (m1 : D0) => 
  (bindR (s_ref11_Useful (m1, ())) fun r5 => (iteB (notB r5.1) (some (false, ())) (f11 (0 : Int) m1)))
theorem e5 (k : Nat) : u5 k = t5 (l11 k k) := by kernel_rfl
theorem g5 (k : Nat) : l5 k = u5 k := funext fun _ => cut_u _ _ _
theorem d5 {x11 y11 : T11} (h11 : x11 = y11) : t5 x11 = t5 y11 := by subst h11; rfl
def p5 (k : Nat) : T5 := t5 (p11 k k)
theorem o5 (k : Nat) : l5 k = p5 k := (Eq.trans (b := u5 k) (g5 k) (Eq.trans (b := t5 (l11 k k)) (e5 k) (Eq.trans (b := t5 (p11 k k)) (d5 (o11 k k)) (by kernel_rfl))))
def t3 (f4 : T4) (f5 : T5) : T3 := fun (x3 x4 : Int) (m1 : D0) => 
  (iteB (decide (x4 < ((List.length m1.2.2.2.1 : Nat) : Int))) (withinR x4 (List.length m1.2.2.2.1) fun q1 => (iteB (decide ((List.getD m1.2.2.2.1 q1 ((0 : Int), ([] : List (Int)))).1 ≤ m1.2.1)) (f4 x3 x4 true m1 (List.getD m1.2.2.2.1 q1 ((0 : Int), ([] : List (Int))))) (iteB (decide (x3 ≤ (List.getD m1.2.2.2.1 q1 ((0 : Int), ([] : List (Int)))).1)) (f4 x3 x4 true m1 (List.getD m1.2.2.2.1 q1 ((0 : Int), ([] : List (Int))))) (f4 x3 x4 (decide ((8 : Int) < ((List.length (List.getD m1.2.2.2.1 q1 ((0 : Int), ([] : List (Int)))).2 : Nat) : Int))) m1 (List.getD m1.2.2.2.1 q1 ((0 : Int), ([] : List (Int)))))))) (f5 m1))
theorem e3 (k n3 : Nat) : u3 k (n3 + 1) = t3 (l4 k n3) (l5 k) := by kernel_rfl
theorem g3 (k n3 : Nat) : l3 k (n3 + 1) = u3 k (n3 + 1) := funext fun _ => funext fun _ => funext fun _ => cut_u _ _ _
theorem d3 {x4 y4 : T4} {x5 y5 : T5} (h4 : x4 = y4) (h5 : x5 = y5) : t3 x4 x5 = t3 y4 y5 := by subst h4; subst h5; rfl
def p3 (k : Nat) : Nat → T3
  | 0 => fun _ _ _ => none
  | n3 + 1 => t3 (p4 k (p3 k n3)) (p5 k)
theorem o3 (k : Nat) : ∀ n3, l3 k n3 = p3 k n3 := by
  intro n3
  induction n3 with
  | zero => kernel_rfl
  | succ n3 ih => exact (Eq.trans (b := u3 k (n3 + 1)) (g3 k n3) (Eq.trans (b := t3 (l4 k n3) (l5 k)) (e3 k n3) (Eq.trans (b := t3 (p4 k (p3 k n3)) (p5 k)) (d3 (o4 k n3 (p3 k n3) ih) (o5 k)) (by kernel_rfl))))
def t2 (f3 : T3) : T2 := fun (x3 : Int) (m1 : D0) => 
  (f3 x3 (0 : Int) m1)
theorem e2 (k : Nat) : u2 k = t2 (l3 k k) := by kernel_rfl
theorem g2 (k : Nat) : l2 k = u2 k := funext fun _ => funext fun _ => cut_u _ _ _
theorem d2 {x3 y3 : T3} (h3 : x3 = y3) : t2 x3 = t2 y3 := by subst h3; rfl
def p2 (k : Nat) : T2 := t2 (p3 k k)
theorem o2 (k : Nat) : l2 k = p2 k := (Eq.trans (b := u2 k) (g2 k) (Eq.trans (b := t2 (l3 k k)) (e2 k) (Eq.trans (b := t2 (p3 k k)) (d2 (o3 k k)) (by kernel_rfl))))
def t1 (f2 : T2) : T1 := fun (x3 : Int) (x57 : Bool) (m1 : D0) => 
  (iteB x57 (some (false, ())) (f2 x3 m1))
theorem e1 (k : Nat) : u1 k = t1 (l2 k) := by kernel_rfl
theorem g1 (k : Nat) : l1 k = u1 k := funext fun _ => funext fun _ => funext fun _ => cut_u _ _ _
theorem d1 {x2 y2 : T2} (h2 : x2 = y2) : t1 x2 = t1 y2 := by subst h2; rfl
def p1 (k : Nat) : T1 := t1 (p2 k)
theorem o1 (k : Nat) : l1 k = p1 k := (Eq.trans (b := u1 k) (g1 k) (Eq.trans (b := t1 (l2 k)) (e1 k) (Eq.trans (b := t1 (p2 k)) (d1 (o2 k)) (by kernel_rfl))))
def t0 (f1 : T1) : T0 := fun (x0 : D0) => 
  (iteB (decide (x0.2.1 < (1 : Int))) (f1 ((List.length x0.1 : Nat) : Int) true x0) (iteB (decide ((32 : Int) < x0.2.1)) (f1 ((List.length x0.1 : Nat) : Int) true x0) (iteB (decide (x0.2.2.1 ≤ x0.2.1)) (f1 ((List.length x0.1 : Nat) : Int) true x0) (iteB (decide (((List.length x0.1 : Nat) : Int) ≤ x0.2.2.1)) (f1 ((List.length x0.1 : Nat) : Int) true x0) (iteB (!decide (((List.length x0.2.2.2.2.2.1 : Nat) : Int) = x0.2.1)) (f1 ((List.length x0.1 : Nat) : Int) true x0) (iteB (decide ((32 : Int) < ((List.length x0.2.2.2.2.1 : Nat) : Int))) (f1 ((List.length x0.1 : Nat) : Int) true x0) (iteB (decide (((List.length x0.2.2.2.1 : Nat) : Int) < (1 : Int))) (f1 ((List.length x0.1 : Nat) : Int) true x0) (f1 ((List.length x0.1 : Nat) : Int) (decide ((64 : Int) < ((List.length x0.2.2.2.1 : Nat) : Int))) x0))))))))
theorem e0 (k : Nat) : u0 k = t0 (l1 k) := by kernel_rfl
theorem d0 {x1 y1 : T1} (h1 : x1 = y1) : t0 x1 = t0 y1 := by subst h1; rfl
def p0 (k : Nat) : T0 := t0 (p1 k)
theorem o0 (k : Nat) : u0 k = p0 k := (Eq.trans (b := t0 (l1 k)) (e0 k) (Eq.trans (b := t0 (p1 k)) (d0 (o1 k)) (by kernel_rfl)))
end ref11_Right
def s_ref11_Right (a : (D0) × (Unit)) : Option ((Bool) × (Unit)) := ref11_Right.p0 (fuel) a.1
noncomputable def F_ref11_Right : FSpec cx.toNm := { ps := [.val ty0], nres := 1, rt := .bool, rm := .ro, f := s_ref11_Right }
theorem w_ref11_Right (a : (D0) × (Unit)) : runOf (S := cx) ref11_Right.E ref11_Right.h (fuel) Try.f12 F_ref11_Right.ps F_ref11_Right.rt F_ref11_Right.rm a = s_ref11_Right a := Eq.trans (b := ref11_Right.u0 (fuel) a.1) (by kernel_rfl) (Eq.trans (b := ref11_Right.p0 (fuel) a.1) (congrFun (ref11_Right.o0 (fuel)) a.1) (by kernel_rfl))
theorem ok_ref11_Right : FnOk Try.prog F_ref11_Right 12 := fn_of (F := F_ref11_Right) (hn := ref11_Right.h) (E := ref11_Right.E) cxOk (tysT _ _ _) (fs_cons ok_ref11_Useful (fs_cons ok_ref11_noted fs_nil)) follows Try.func12 (by kernel_rfl) (fun a r h => ⟨fuel, Eq.trans (w_ref11_Right a) h⟩)
namespace law11_Great
noncomputable def E : Env cx := { tys := tys, fs := fsOf [] }
abbrev R := Option ((Bool) × (Unit))
abbrev C := Exit → ST cx → R
noncomputable def b : Code := bodyC Try.f9
noncomputable def h : Hint := { vs := [0, 1, 2, 3], nil := [], cuts := [(2, ([1, 43], [1]), ([1], [1])), (3, ([1], [1]), ([1], [1])), (4, ([1, 3], [1]), ([], [])), (8, ([], []), ([], []))], ret := ([2], [1]), ords := [] }
noncomputable def K0 : C := fin (S := cx) E Try.f9.results.toList .bool .ro [] []
noncomputable def c0 : Code := subC b [1]
noncomputable def K1 (k : Nat) : C := outD h c0 K0
noncomputable def K2 (k : Nat) : C := seqC E h k c0 K0
noncomputable def c1 : Code := subC b [1, 1]
noncomputable def K3 (k : Nat) : C := outD h c1 (K1 k)
noncomputable def K4 (k : Nat) : C := seqC E h k c1 (K1 k)
noncomputable def c2 : Code := subC b [1, 0, 1]
noncomputable def K5 (k : Nat) : C := outD h c2 (K4 k)
noncomputable def K6 (k : Nat) : C := seqC E h k c2 (K4 k)
noncomputable def c3 : Code := subC b [1, 0, 1, 0, 1]
noncomputable def K7 (k : Nat) : C := outD h c3 (K5 k)
noncomputable def K8 (k : Nat) : C := seqC E h k c3 (K5 k)
noncomputable def c4 : Code := subC b [1, 1, 1]
noncomputable def K9 (k : Nat) : C := outD h c4 (K3 k)
noncomputable def K10 (k : Nat) : C := seqC E h k c4 (K3 k)
noncomputable def c5 : Code := subC b [1, 1, 0, 1]
noncomputable def K11 (k : Nat) : C := outD h c5 (K10 k)
noncomputable def K12 (k : Nat) : C := seqC E h k c5 (K10 k)
noncomputable def K13 (k : Nat) : C := blockK 0 (K11 k)
noncomputable def c6 : Code := subC b [1, 1, 0, 1, 0, 0]
noncomputable def K14 (k n3 : Nat) : C := loopD E h k c6 (K13 k) n3
noncomputable def c7 : Code := subC b [1, 1, 0, 1, 0, 0, 1]
noncomputable def K15 (k n3 : Nat) : C := outD h c7 (K14 k n3)
noncomputable def K16 (k n3 : Nat) : C := seqC E h k c7 (K14 k n3)
noncomputable def c8 : Code := subC b [1, 1, 0, 1, 0, 0, 0, 1]
noncomputable def K17 (k n3 : Nat) : C := outD h c8 (K16 k n3)
noncomputable def K18 (k n3 : Nat) : C := seqC E h k c8 (K16 k n3)
noncomputable def c9 : Code := subC b [1, 1, 0, 1, 0, 0, 1, 1]
noncomputable def K19 (k n3 : Nat) : C := outD h c9 (K15 k n3)
noncomputable def K20 (k n3 : Nat) : C := seqC E h k c9 (K15 k n3)
noncomputable def K21 (k n3 : Nat) : C := blockK 1 (K20 k n3)
noncomputable def c10 : Code := subC b [1, 1, 0, 1, 0, 0, 1, 0, 0, 1]
noncomputable def K22 (k n3 : Nat) : C := outD h c10 (K21 k n3)
noncomputable def K23 (k n3 : Nat) : C := seqC E h k c10 (K21 k n3)
noncomputable def c11 : Code := subC b [1, 1, 0, 1, 0, 0, 1, 0, 0, 1, 0, 1]
noncomputable def K24 (k n3 : Nat) : C := outD h c11 (K22 k n3)
noncomputable def K25 (k n3 : Nat) : C := seqC E h k c11 (K22 k n3)
noncomputable def c12 : Code := subC b [1, 1, 1, 1]
noncomputable def K26 (k : Nat) : C := outD h c12 (K9 k)
noncomputable def K27 (k : Nat) : C := seqC E h k c12 (K9 k)
abbrev T4 := R
abbrev T3 := Int → D0 → R
abbrev T2 := D0 → R
abbrev T1 := Bool → D0 → R
abbrev T0 := D0 → R
abbrev s4 : ST cx := ({ vars := [], scr := [], mems := [] } : ST cx)
noncomputable def u4 (k : Nat) : T4 := uK (run E h k c4) s4 (K9 k)
noncomputable abbrev l4 (k : Nat) : T4 := cutK (run E h k c4) s4 (K9 k)
abbrev s3 : Int → D0 → ST cx := fun (x3 : Int) (m1 : D0) => ({ vars := [(1, .addr (.mem 1) []), (3, .v (.int .i64) .ro x3)], scr := [], mems := [(1, ⟨ty0, .ro, m1⟩)] } : ST cx)
noncomputable def u3 (k n3 : Nat) : T3 := fun (x3 : Int) (m1 : D0) => uK (loopL E h k c6 (K13 k) n3) (s3 x3 m1) ()
noncomputable abbrev l3 (k n3 : Nat) : T3 := fun (x3 : Int) (m1 : D0) => cutK (loopL E h k c6 (K13 k) n3) (s3 x3 m1) ()
abbrev s2 : D0 → ST cx := fun (m1 : D0) => ({ vars := [(1, .addr (.mem 1) [])], scr := [], mems := [(1, ⟨ty0, .ro, m1⟩)] } : ST cx)
noncomputable def u2 (k : Nat) : T2 := fun (m1 : D0) => uK (run E h k c1) (s2 m1) (K3 k)
noncomputable abbrev l2 (k : Nat) : T2 := fun (m1 : D0) => cutK (run E h k c1) (s2 m1) (K3 k)
abbrev s1 : Bool → D0 → ST cx := fun (x43 : Bool) (m1 : D0) => ({ vars := [(1, .addr (.mem 1) []), (43, .v .bool .ro x43)], scr := [], mems := [(1, ⟨ty0, .ro, m1⟩)] } : ST cx)
noncomputable def u1 (k : Nat) : T1 := fun (x43 : Bool) (m1 : D0) => uK (run E h k c2) (s1 x43 m1) (K5 k)
noncomputable abbrev l1 (k : Nat) : T1 := fun (x43 : Bool) (m1 : D0) => cutK (run E h k c2) (s1 x43 m1) (K5 k)
noncomputable def u0 (k : Nat) : T0 := fun (x0 : D0) => runOf (S := cx) E h k Try.f9 [.val ty0] .bool .ro (x0, ())
def t4 : T4 := 
  (some (false, ()))
theorem e4 (k : Nat) : u4 k = t4 := by kernel_rfl
theorem g4 (k : Nat) : l4 k = u4 k := cut_u _ _ _
def p4 (k : Nat) : T4 := t4
theorem o4 (k : Nat) : l4 k = p4 k := (Eq.trans (b := u4 k) (g4 k) (Eq.trans (b := t4) (e4 k) (by kernel_rfl)))
def t3 (f3 : T3) (f4 : T4) : T3 := fun (x3 : Int) (m1 : D0) => 
  (iteB (decide (x3 < ((List.length m1.2.2.2.1 : Nat) : Int))) (withinR x3 (List.length m1.2.2.2.1) fun q1 => (iteB (decide ((20 : Int) < ((List.length (List.getD m1.2.2.2.1 q1 ((0 : Int), ([] : List (Int)))).2 : Nat) : Int))) (some (true, ())) (f3 (w64 (x3 + (1 : Int))) m1))) f4)
theorem e3 (k n3 : Nat) : u3 k (n3 + 1) = t3 (l3 k n3) (l4 k) := by kernel_rfl
theorem g3 (k n3 : Nat) : l3 k (n3 + 1) = u3 k (n3 + 1) := funext fun _ => funext fun _ => cut_u _ _ _
theorem d3 {x3 y3 : T3} {x4 y4 : T4} (h3 : x3 = y3) (h4 : x4 = y4) : t3 x3 x4 = t3 y3 y4 := by subst h3; subst h4; rfl
def p3 (k : Nat) : Nat → T3
  | 0 => fun _ _ => none
  | n3 + 1 => t3 (p3 k n3) (p4 k)
theorem o3 (k : Nat) : ∀ n3, l3 k n3 = p3 k n3 := by
  intro n3
  induction n3 with
  | zero => kernel_rfl
  | succ n3 ih => exact (Eq.trans (b := u3 k (n3 + 1)) (g3 k n3) (Eq.trans (b := t3 (l3 k n3) (l4 k)) (e3 k n3) (Eq.trans (b := t3 (p3 k n3) (p4 k)) (d3 ih (o4 k)) (by kernel_rfl))))
def t2 (f3 : T3) : T2 := fun (m1 : D0) => 
  (f3 (0 : Int) m1)
theorem e2 (k : Nat) : u2 k = t2 (l3 k k) := by kernel_rfl
theorem g2 (k : Nat) : l2 k = u2 k := funext fun _ => cut_u _ _ _
theorem d2 {x3 y3 : T3} (h3 : x3 = y3) : t2 x3 = t2 y3 := by subst h3; rfl
def p2 (k : Nat) : T2 := t2 (p3 k k)
theorem o2 (k : Nat) : l2 k = p2 k := (Eq.trans (b := u2 k) (g2 k) (Eq.trans (b := t2 (l3 k k)) (e2 k) (Eq.trans (b := t2 (p3 k k)) (d2 (o3 k k)) (by kernel_rfl))))
def t1 (f2 : T2) : T1 := fun (x43 : Bool) (m1 : D0) => 
  (iteB x43 (some (true, ())) (f2 m1))
theorem e1 (k : Nat) : u1 k = t1 (l2 k) := by kernel_rfl
theorem g1 (k : Nat) : l1 k = u1 k := funext fun _ => funext fun _ => cut_u _ _ _
theorem d1 {x2 y2 : T2} (h2 : x2 = y2) : t1 x2 = t1 y2 := by subst h2; rfl
def p1 (k : Nat) : T1 := t1 (p2 k)
theorem o1 (k : Nat) : l1 k = p1 k := (Eq.trans (b := u1 k) (g1 k) (Eq.trans (b := t1 (l2 k)) (e1 k) (Eq.trans (b := t1 (p2 k)) (d1 (o2 k)) (by kernel_rfl))))
def t0 (f1 : T1) : T0 := fun (x0 : D0) => 
  (iteB (decide ((60 : Int) < ((List.length x0.1 : Nat) : Int))) (f1 true x0) (iteB (decide ((80 : Int) < ((List.length x0.2.2.2.1 : Nat) : Int))) (f1 true x0) (iteB (decide ((100 : Int) < ((List.length x0.2.2.2.2.1 : Nat) : Int))) (f1 true x0) (iteB (decide ((100 : Int) < ((List.length x0.2.2.2.2.2.1 : Nat) : Int))) (f1 true x0) (iteB (decide ((20 : Int) < ((List.length x0.2.2.2.2.2.2.1 : Nat) : Int))) (f1 true x0) (iteB (decide ((20 : Int) < ((List.length x0.2.2.2.2.2.2.2.1 : Nat) : Int))) (f1 true x0) (f1 (decide ((20 : Int) < ((List.length x0.2.2.2.2.2.2.2.2 : Nat) : Int))) x0)))))))
theorem e0 (k : Nat) : u0 k = t0 (l1 k) := by kernel_rfl
theorem d0 {x1 y1 : T1} (h1 : x1 = y1) : t0 x1 = t0 y1 := by subst h1; rfl
def p0 (k : Nat) : T0 := t0 (p1 k)
theorem o0 (k : Nat) : u0 k = p0 k := (Eq.trans (b := t0 (l1 k)) (e0 k) (Eq.trans (b := t0 (p1 k)) (d0 (o1 k)) (by kernel_rfl)))
end law11_Great
def s_law11_Great (a : (D0) × (Unit)) : Option ((Bool) × (Unit)) := law11_Great.p0 (fuel) a.1
noncomputable def F_law11_Great : FSpec cx.toNm := { ps := [.val ty0], nres := 1, rt := .bool, rm := .ro, f := s_law11_Great }
theorem w_law11_Great (a : (D0) × (Unit)) : runOf (S := cx) law11_Great.E law11_Great.h (fuel) Try.f9 F_law11_Great.ps F_law11_Great.rt F_law11_Great.rm a = s_law11_Great a := Eq.trans (b := law11_Great.u0 (fuel) a.1) (by kernel_rfl) (Eq.trans (b := law11_Great.p0 (fuel) a.1) (congrFun (law11_Great.o0 (fuel)) a.1) (by kernel_rfl))
theorem ok_law11_Great : FnOk Try.prog F_law11_Great 9 := fn_of (F := F_law11_Great) (hn := law11_Great.h) (E := law11_Great.E) cxOk (tysT _ _ _) fs_nil follows Try.func9 (by kernel_rfl) (fun a r h => ⟨fuel, Eq.trans (w_law11_Great a) h⟩)
namespace law15_Made
noncomputable def E : Env cx := { tys := tys, fs := fsOf [(9, F_law11_Great), (12, F_ref11_Right), (14, F_ref15_Make)] }
abbrev R := Option ((Option N1) × (Unit))
abbrev C := Exit → ST cx → R
noncomputable def b : Code := bodyC Try.f13
noncomputable def h : Hint := { vs := [0, 1, 2, 4, 5, 6], nil := [(43, (.own .ro))], cuts := [(2, ([1, 2, 27], [2]), ([1, 2], [2])), (3, ([1, 2], [2]), ([1, 2], [2])), (4, ([1, 2, 5], [2]), ([1, 2], [2])), (8, ([1, 2], [2]), ([1, 2], [2]))], ret := ([4], [2, 6]), ords := [] }
noncomputable def K0 : C := fin (S := cx) E Try.f13.results.toList (.ptr 1) .ro [] []
noncomputable def c0 : Code := subC b [1]
noncomputable def K1 (k : Nat) : C := outD h c0 K0
noncomputable def K2 (k : Nat) : C := seqC E h k c0 K0
noncomputable def c1 : Code := subC b [1, 1]
noncomputable def K3 (k : Nat) : C := outD h c1 (K1 k)
noncomputable def K4 (k : Nat) : C := seqC E h k c1 (K1 k)
noncomputable def c2 : Code := subC b [1, 0, 1]
noncomputable def K5 (k : Nat) : C := outD h c2 (K4 k)
noncomputable def K6 (k : Nat) : C := seqC E h k c2 (K4 k)
noncomputable def c3 : Code := subC b [1, 0, 1, 0, 1]
noncomputable def K7 (k : Nat) : C := outD h c3 (K5 k)
noncomputable def K8 (k : Nat) : C := seqC E h k c3 (K5 k)
noncomputable def c4 : Code := subC b [1, 1, 1]
noncomputable def K9 (k : Nat) : C := outD h c4 (K3 k)
noncomputable def K10 (k : Nat) : C := seqC E h k c4 (K3 k)
noncomputable def c5 : Code := subC b [1, 1, 0, 1]
noncomputable def K11 (k : Nat) : C := outD h c5 (K10 k)
noncomputable def K12 (k : Nat) : C := seqC E h k c5 (K10 k)
noncomputable def K13 (k : Nat) : C := blockK 0 (K11 k)
noncomputable def c6 : Code := subC b [1, 1, 0, 1, 0, 0]
noncomputable def K14 (k n3 : Nat) : C := loopD E h k c6 (K13 k) n3
noncomputable def c7 : Code := subC b [1, 1, 0, 1, 0, 0, 1]
noncomputable def K15 (k n3 : Nat) : C := outD h c7 (K14 k n3)
noncomputable def K16 (k n3 : Nat) : C := seqC E h k c7 (K14 k n3)
noncomputable def c8 : Code := subC b [1, 1, 0, 1, 0, 0, 0, 1]
noncomputable def K17 (k n3 : Nat) : C := outD h c8 (K16 k n3)
noncomputable def K18 (k n3 : Nat) : C := seqC E h k c8 (K16 k n3)
noncomputable def c9 : Code := subC b [1, 1, 0, 1, 0, 0, 1, 1]
noncomputable def K19 (k n3 : Nat) : C := outD h c9 (K15 k n3)
noncomputable def K20 (k n3 : Nat) : C := seqC E h k c9 (K15 k n3)
noncomputable def K21 (k n3 : Nat) : C := blockK 1 (K20 k n3)
noncomputable def c10 : Code := subC b [1, 1, 0, 1, 0, 0, 1, 0, 0, 1]
noncomputable def K22 (k n3 : Nat) : C := outD h c10 (K21 k n3)
noncomputable def K23 (k n3 : Nat) : C := seqC E h k c10 (K21 k n3)
noncomputable def c11 : Code := subC b [1, 1, 0, 1, 0, 0, 1, 0, 0, 1, 0, 1]
noncomputable def K24 (k n3 : Nat) : C := outD h c11 (K22 k n3)
noncomputable def K25 (k n3 : Nat) : C := seqC E h k c11 (K22 k n3)
noncomputable def c12 : Code := subC b [1, 1, 1, 1]
noncomputable def K26 (k : Nat) : C := outD h c12 (K9 k)
noncomputable def K27 (k : Nat) : C := seqC E h k c12 (K9 k)
noncomputable def c13 : Code := subC b [1, 1, 1, 1, 1]
noncomputable def K28 (k : Nat) : C := outD h c13 (K26 k)
noncomputable def K29 (k : Nat) : C := seqC E h k c13 (K26 k)
abbrev T4 := (List (Int)) → D0 → R
abbrev T3 := (List (Int)) → Int → D0 → R
abbrev T2 := (List (Int)) → D0 → R
abbrev T1 := (List (Int)) → Bool → D0 → R
abbrev T0 := D0 → (List (Int)) → R
abbrev s4 : (List (Int)) → D0 → ST cx := fun (x1 : List (Int)) (m2 : D0) => ({ vars := [(1, .v (.slice 5 (.int .u8)) .ro x1), (2, .addr (.mem 2) [])], scr := [], mems := [(2, ⟨ty0, .ro, m2⟩)] } : ST cx)
noncomputable def u4 (k : Nat) : T4 := fun (x1 : List (Int)) (m2 : D0) => uK (run E h k c4) (s4 x1 m2) (K9 k)
noncomputable abbrev l4 (k : Nat) : T4 := fun (x1 : List (Int)) (m2 : D0) => cutK (run E h k c4) (s4 x1 m2) (K9 k)
abbrev s3 : (List (Int)) → Int → D0 → ST cx := fun (x1 : List (Int)) (x5 : Int) (m2 : D0) => ({ vars := [(1, .v (.slice 5 (.int .u8)) .ro x1), (2, .addr (.mem 2) []), (5, .v (.int .i64) .ro x5)], scr := [], mems := [(2, ⟨ty0, .ro, m2⟩)] } : ST cx)
noncomputable def u3 (k n3 : Nat) : T3 := fun (x1 : List (Int)) (x5 : Int) (m2 : D0) => uK (loopL E h k c6 (K13 k) n3) (s3 x1 x5 m2) ()
noncomputable abbrev l3 (k n3 : Nat) : T3 := fun (x1 : List (Int)) (x5 : Int) (m2 : D0) => cutK (loopL E h k c6 (K13 k) n3) (s3 x1 x5 m2) ()
abbrev s2 : (List (Int)) → D0 → ST cx := fun (x1 : List (Int)) (m2 : D0) => ({ vars := [(1, .v (.slice 5 (.int .u8)) .ro x1), (2, .addr (.mem 2) [])], scr := [], mems := [(2, ⟨ty0, .ro, m2⟩)] } : ST cx)
noncomputable def u2 (k : Nat) : T2 := fun (x1 : List (Int)) (m2 : D0) => uK (run E h k c1) (s2 x1 m2) (K3 k)
noncomputable abbrev l2 (k : Nat) : T2 := fun (x1 : List (Int)) (m2 : D0) => cutK (run E h k c1) (s2 x1 m2) (K3 k)
abbrev s1 : (List (Int)) → Bool → D0 → ST cx := fun (x1 : List (Int)) (x27 : Bool) (m2 : D0) => ({ vars := [(1, .v (.slice 5 (.int .u8)) .ro x1), (2, .addr (.mem 2) []), (27, .v .bool .ro x27)], scr := [], mems := [(2, ⟨ty0, .ro, m2⟩)] } : ST cx)
noncomputable def u1 (k : Nat) : T1 := fun (x1 : List (Int)) (x27 : Bool) (m2 : D0) => uK (run E h k c2) (s1 x1 x27 m2) (K5 k)
noncomputable abbrev l1 (k : Nat) : T1 := fun (x1 : List (Int)) (x27 : Bool) (m2 : D0) => cutK (run E h k c2) (s1 x1 x27 m2) (K5 k)
noncomputable def u0 (k : Nat) : T0 := fun (x0 : D0) (x1 : List (Int)) => runOf (S := cx) E h k Try.f13 [.val ty0, .val (.slice 5 (.int .u8))] (.ptr 1) .ro (x0, x1, ())
def t4 : T4 := fun (x1 : List (Int)) (m2 : D0) => 
  (mustR (room ([] : List (Int)) x1) (bindR (s_ref15_Make (m2, (m2.2.2.1, ((([] : List (Int)) ++ x1), ((4 : Int), ()))))) fun r4 => (some (r4.1, ()))))
theorem e4 (k : Nat) : u4 k = t4 := by kernel_rfl
theorem g4 (k : Nat) : l4 k = u4 k := funext fun _ => funext fun _ => cut_u _ _ _
def p4 (k : Nat) : T4 := t4
theorem o4 (k : Nat) : l4 k = p4 k := (Eq.trans (b := u4 k) (g4 k) (Eq.trans (b := t4) (e4 k) (by kernel_rfl)))
def t3 (f3 : T3) (f4 : T4) : T3 := fun (x1 : List (Int)) (x5 : Int) (m2 : D0) => 
  (iteB (decide (x5 < ((List.length m2.2.2.2.1 : Nat) : Int))) (withinR x5 (List.length m2.2.2.2.1) fun q3 => (iteB (decide ((3 : Int) < ((List.length (List.getD m2.2.2.2.1 q3 ((0 : Int), ([] : List (Int)))).2 : Nat) : Int))) (some (none, ())) (f3 x1 (w64 (x5 + (1 : Int))) m2))) (f4 x1 m2))
theorem e3 (k n3 : Nat) : u3 k (n3 + 1) = t3 (l3 k n3) (l4 k) := by kernel_rfl
theorem g3 (k n3 : Nat) : l3 k (n3 + 1) = u3 k (n3 + 1) := funext fun _ => funext fun _ => funext fun _ => cut_u _ _ _
theorem d3 {x3 y3 : T3} {x4 y4 : T4} (h3 : x3 = y3) (h4 : x4 = y4) : t3 x3 x4 = t3 y3 y4 := by subst h3; subst h4; rfl
def p3 (k : Nat) : Nat → T3
  | 0 => fun _ _ _ => none
  | n3 + 1 => t3 (p3 k n3) (p4 k)
theorem o3 (k : Nat) : ∀ n3, l3 k n3 = p3 k n3 := by
  intro n3
  induction n3 with
  | zero => kernel_rfl
  | succ n3 ih => exact (Eq.trans (b := u3 k (n3 + 1)) (g3 k n3) (Eq.trans (b := t3 (l3 k n3) (l4 k)) (e3 k n3) (Eq.trans (b := t3 (p3 k n3) (p4 k)) (d3 ih (o4 k)) (by kernel_rfl))))
def t2 (f3 : T3) : T2 := fun (x1 : List (Int)) (m2 : D0) => 
  (f3 x1 (0 : Int) m2)
theorem e2 (k : Nat) : u2 k = t2 (l3 k k) := by kernel_rfl
theorem g2 (k : Nat) : l2 k = u2 k := funext fun _ => funext fun _ => cut_u _ _ _
theorem d2 {x3 y3 : T3} (h3 : x3 = y3) : t2 x3 = t2 y3 := by subst h3; rfl
def p2 (k : Nat) : T2 := t2 (p3 k k)
theorem o2 (k : Nat) : l2 k = p2 k := (Eq.trans (b := u2 k) (g2 k) (Eq.trans (b := t2 (l3 k k)) (e2 k) (Eq.trans (b := t2 (p3 k k)) (d2 (o3 k k)) (by kernel_rfl))))
def t1 (f2 : T2) : T1 := fun (x1 : List (Int)) (x27 : Bool) (m2 : D0) => 
  (iteB x27 (some (none, ())) (f2 x1 m2))
theorem e1 (k : Nat) : u1 k = t1 (l2 k) := by kernel_rfl
theorem g1 (k : Nat) : l1 k = u1 k := funext fun _ => funext fun _ => funext fun _ => cut_u _ _ _
theorem d1 {x2 y2 : T2} (h2 : x2 = y2) : t1 x2 = t1 y2 := by subst h2; rfl
def p1 (k : Nat) : T1 := t1 (p2 k)
theorem o1 (k : Nat) : l1 k = p1 k := (Eq.trans (b := u1 k) (g1 k) (Eq.trans (b := t1 (l2 k)) (e1 k) (Eq.trans (b := t1 (p2 k)) (d1 (o2 k)) (by kernel_rfl))))
def t0 (f1 : T1) : T0 := fun (x0 : D0) (x1 : List (Int)) => 
  (bindR (s_law11_Great (x0, ())) fun r1 => (iteB r1.1 (f1 x1 true x0) (bindR (s_ref11_Right (x0, ())) fun r2 => (iteB (notB r2.1) (f1 x1 true x0) (iteB (decide ((60 : Int) < ((List.length x1 : Nat) : Int))) (f1 x1 true x0) (f1 x1 (decide ((w64 (x0.2.1 + (5 : Int))) < ((List.length x0.1 : Nat) : Int))) x0))))))
theorem e0 (k : Nat) : u0 k = t0 (l1 k) := by kernel_rfl
theorem d0 {x1 y1 : T1} (h1 : x1 = y1) : t0 x1 = t0 y1 := by subst h1; rfl
def p0 (k : Nat) : T0 := t0 (p1 k)
theorem o0 (k : Nat) : u0 k = p0 k := (Eq.trans (b := t0 (l1 k)) (e0 k) (Eq.trans (b := t0 (p1 k)) (d0 (o1 k)) (by kernel_rfl)))
end law15_Made
def s_law15_Made (a : (D0) × ((List (Int)) × (Unit))) : Option ((Option N1) × (Unit)) := law15_Made.p0 (fuel) a.1 a.2.1
noncomputable def F_law15_Made : FSpec cx.toNm := { ps := [.val ty0, .val (.slice 5 (.int .u8))], nres := 1, rt := (.ptr 1), rm := .ro, f := s_law15_Made }
theorem w_law15_Made (a : (D0) × ((List (Int)) × (Unit))) : runOf (S := cx) law15_Made.E law15_Made.h (fuel) Try.f13 F_law15_Made.ps F_law15_Made.rt F_law15_Made.rm a = s_law15_Made a := Eq.trans (b := law15_Made.u0 (fuel) a.1 a.2.1) (by kernel_rfl) (Eq.trans (b := law15_Made.p0 (fuel) a.1 a.2.1) (congrFun (congrFun (law15_Made.o0 (fuel)) a.1) a.2.1) (by kernel_rfl))
theorem ok_law15_Made : FnOk Try.prog F_law15_Made 13 := fn_of (F := F_law15_Made) (hn := law15_Made.h) (E := law15_Made.E) cxOk (tysT _ _ _) (fs_cons ok_law11_Great (fs_cons ok_ref11_Right (fs_cons ok_ref15_Make fs_nil))) follows Try.func13 (by kernel_rfl) (fun a r h => ⟨fuel, Eq.trans (w_law15_Made a) h⟩)
noncomputable def Fr_law15_count (f : ((Option N1) × ((Int) × (Unit))) → Option ((Int) × (Unit))) : FSpec cx.toNm := { ps := [.val (.ptr 1), .val (.int .i64)], nres := 1, rt := (.int .i64), rm := .ro, f := f }
namespace law15_count
noncomputable def E (sf_law15_count : ((Option N1) × ((Int) × (Unit))) → Option ((Int) × (Unit))) : Env cx := { tys := tys, fs := fsOf [(32, (Fr_law15_count sf_law15_count))] }
abbrev R := Option ((Int) × (Unit))
abbrev C := Exit → ST cx → R
noncomputable def b : Code := bodyC Try.f32
noncomputable def h : Hint := { vs := [0, 1, 4, 5], nil := [], cuts := [(3, ([0, 1, 13], []), ([0, 1], [])), (4, ([0, 1], []), ([0, 1], [])), (5, ([0, 1, 5], []), ([1], [])), (7, ([0, 1, 5], []), ([0, 1, 5], [])), (8, ([1], []), ([1], [])), (1000000, ([0, 1, 5, 25], []), ([0, 1, 5], []))], ret := ([4], []), ords := [] }
noncomputable def K0 (sf_law15_count : ((Option N1) × ((Int) × (Unit))) → Option ((Int) × (Unit))) : C := fin (S := cx) (E sf_law15_count) Try.f32.results.toList (.int .i64) .ro [] []
noncomputable def c0 : Code := subC b [1]
noncomputable def K1 (sf_law15_count : ((Option N1) × ((Int) × (Unit))) → Option ((Int) × (Unit))) (k : Nat) : C := outD h c0 (K0 sf_law15_count)
noncomputable def K2 (sf_law15_count : ((Option N1) × ((Int) × (Unit))) → Option ((Int) × (Unit))) (k : Nat) : C := seqC (E sf_law15_count) h k c0 (K0 sf_law15_count)
noncomputable def c1 : Code := subC b [1, 1]
noncomputable def K3 (sf_law15_count : ((Option N1) × ((Int) × (Unit))) → Option ((Int) × (Unit))) (k : Nat) : C := outD h c1 (K1 sf_law15_count k)
noncomputable def K4 (sf_law15_count : ((Option N1) × ((Int) × (Unit))) → Option ((Int) × (Unit))) (k : Nat) : C := seqC (E sf_law15_count) h k c1 (K1 sf_law15_count k)
noncomputable def c2 : Code := subC b [1, 1, 1]
noncomputable def K5 (sf_law15_count : ((Option N1) × ((Int) × (Unit))) → Option ((Int) × (Unit))) (k : Nat) : C := outD h c2 (K3 sf_law15_count k)
noncomputable def K6 (sf_law15_count : ((Option N1) × ((Int) × (Unit))) → Option ((Int) × (Unit))) (k : Nat) : C := seqC (E sf_law15_count) h k c2 (K3 sf_law15_count k)
noncomputable def c3 : Code := subC b [1, 1, 0, 1]
noncomputable def K7 (sf_law15_count : ((Option N1) × ((Int) × (Unit))) → Option ((Int) × (Unit))) (k : Nat) : C := outD h c3 (K6 sf_law15_count k)
noncomputable def K8 (sf_law15_count : ((Option N1) × ((Int) × (Unit))) → Option ((Int) × (Unit))) (k : Nat) : C := seqC (E sf_law15_count) h k c3 (K6 sf_law15_count k)
noncomputable def c4 : Code := subC b [1, 1, 0, 1, 0, 1]
noncomputable def K9 (sf_law15_count : ((Option N1) × ((Int) × (Unit))) → Option ((Int) × (Unit))) (k : Nat) : C := outD h c4 (K7 sf_law15_count k)
noncomputable def K10 (sf_law15_count : ((Option N1) × ((Int) × (Unit))) → Option ((Int) × (Unit))) (k : Nat) : C := seqC (E sf_law15_count) h k c4 (K7 sf_law15_count k)
noncomputable def c5 : Code := subC b [1, 1, 1, 1]
noncomputable def K11 (sf_law15_count : ((Option N1) × ((Int) × (Unit))) → Option ((Int) × (Unit))) (k : Nat) : C := outD h c5 (K5 sf_law15_count k)
noncomputable def K12 (sf_law15_count : ((Option N1) × ((Int) × (Unit))) → Option ((Int) × (Unit))) (k : Nat) : C := seqC (E sf_law15_count) h k c5 (K5 sf_law15_count k)
noncomputable def c6 : Code := subC b [1, 1, 1, 0, 1]
noncomputable def K13 (sf_law15_count : ((Option N1) × ((Int) × (Unit))) → Option ((Int) × (Unit))) (k : Nat) : C := outD h c6 (K12 sf_law15_count k)
noncomputable def K14 (sf_law15_count : ((Option N1) × ((Int) × (Unit))) → Option ((Int) × (Unit))) (k : Nat) : C := seqC (E sf_law15_count) h k c6 (K12 sf_law15_count k)
noncomputable def K15 (sf_law15_count : ((Option N1) × ((Int) × (Unit))) → Option ((Int) × (Unit))) (k : Nat) : C := blockK 0 (K13 sf_law15_count k)
noncomputable def c7 : Code := subC b [1, 1, 1, 0, 1, 0, 0]
noncomputable def K16 (sf_law15_count : ((Option N1) × ((Int) × (Unit))) → Option ((Int) × (Unit))) (k n3 : Nat) : C := loopD (E sf_law15_count) h k c7 (K15 sf_law15_count k) n3
noncomputable def c8 : Code := subC b [1, 1, 1, 0, 1, 0, 0, 1]
noncomputable def K17 (sf_law15_count : ((Option N1) × ((Int) × (Unit))) → Option ((Int) × (Unit))) (k n3 : Nat) : C := outD h c8 (K16 sf_law15_count k n3)
noncomputable def K18 (sf_law15_count : ((Option N1) × ((Int) × (Unit))) → Option ((Int) × (Unit))) (k n3 : Nat) : C := seqC (E sf_law15_count) h k c8 (K16 sf_law15_count k n3)
noncomputable def c9 : Code := subC b [1, 1, 1, 0, 1, 0, 0, 0, 1]
noncomputable def K19 (sf_law15_count : ((Option N1) × ((Int) × (Unit))) → Option ((Int) × (Unit))) (k n3 : Nat) : C := outD h c9 (K18 sf_law15_count k n3)
noncomputable def K20 (sf_law15_count : ((Option N1) × ((Int) × (Unit))) → Option ((Int) × (Unit))) (k n3 : Nat) : C := seqC (E sf_law15_count) h k c9 (K18 sf_law15_count k n3)
noncomputable def c10 : Code := subC b [1, 1, 1, 0, 1, 0, 0, 1, 1]
noncomputable def K21 (sf_law15_count : ((Option N1) × ((Int) × (Unit))) → Option ((Int) × (Unit))) (k n3 : Nat) : C := outD h c10 (K17 sf_law15_count k n3)
noncomputable def K22 (sf_law15_count : ((Option N1) × ((Int) × (Unit))) → Option ((Int) × (Unit))) (k n3 : Nat) : C := seqC (E sf_law15_count) h k c10 (K17 sf_law15_count k n3)
noncomputable def K23 (sf_law15_count : ((Option N1) × ((Int) × (Unit))) → Option ((Int) × (Unit))) (k n3 : Nat) : C := blockK 1 (K22 sf_law15_count k n3)
noncomputable def c11 : Code := subC b [1, 1, 1, 1, 1]
noncomputable def K24 (sf_law15_count : ((Option N1) × ((Int) × (Unit))) → Option ((Int) × (Unit))) (k : Nat) : C := outD h c11 (K11 sf_law15_count k)
noncomputable def K25 (sf_law15_count : ((Option N1) × ((Int) × (Unit))) → Option ((Int) × (Unit))) (k : Nat) : C := seqC (E sf_law15_count) h k c11 (K11 sf_law15_count k)
abbrev T5 := (Option N1) → Int → Int → R
abbrev T6 := Int → R
abbrev T4 := (Option N1) → Int → Int → Bool → R
abbrev T3 := (Option N1) → Int → Int → R
abbrev T2 := (Option N1) → Int → R
abbrev T1 := (Option N1) → Int → Bool → R
abbrev T0 := (Option N1) → Int → R
abbrev s5 : (Option N1) → Int → Int → ST cx := fun (x0 : Option N1) (x1 x5 : Int) => ({ vars := [(0, .v (.ptr 1) .ro x0), (1, .v (.int .i64) .ro x1), (5, .v (.int .i64) .ro x5)], scr := [], mems := [] } : ST cx)
noncomputable def u5 (sf_law15_count : ((Option N1) × ((Int) × (Unit))) → Option ((Int) × (Unit))) (k n3 : Nat) : T5 := fun (x0 : Option N1) (x1 x5 : Int) => uK (run (E sf_law15_count) h k c8) (s5 x0 x1 x5) (K17 sf_law15_count k n3)
noncomputable abbrev l5 (sf_law15_count : ((Option N1) × ((Int) × (Unit))) → Option ((Int) × (Unit))) (k n3 : Nat) : T5 := fun (x0 : Option N1) (x1 x5 : Int) => cutK (run (E sf_law15_count) h k c8) (s5 x0 x1 x5) (K17 sf_law15_count k n3)
abbrev s6 : Int → ST cx := fun (x1 : Int) => ({ vars := [(1, .v (.int .i64) .ro x1)], scr := [], mems := [] } : ST cx)
noncomputable def u6 (sf_law15_count : ((Option N1) × ((Int) × (Unit))) → Option ((Int) × (Unit))) (k : Nat) : T6 := fun (x1 : Int) => uK (run (E sf_law15_count) h k c5) (s6 x1) (K11 sf_law15_count k)
noncomputable abbrev l6 (sf_law15_count : ((Option N1) × ((Int) × (Unit))) → Option ((Int) × (Unit))) (k : Nat) : T6 := fun (x1 : Int) => cutK (run (E sf_law15_count) h k c5) (s6 x1) (K11 sf_law15_count k)
abbrev s4 : (Option N1) → Int → Int → Bool → ST cx := fun (x0 : Option N1) (x1 x5 : Int) (x25 : Bool) => ({ vars := [(0, .v (.ptr 1) .ro x0), (1, .v (.int .i64) .ro x1), (5, .v (.int .i64) .ro x5), (25, .v .bool .ro x25)], scr := [], mems := [] } : ST cx)
noncomputable def u4 (sf_law15_count : ((Option N1) × ((Int) × (Unit))) → Option ((Int) × (Unit))) (k n3 : Nat) : T4 := fun (x0 : Option N1) (x1 x5 : Int) (x25 : Bool) => uK (run (E sf_law15_count) h k c9) (s4 x0 x1 x5 x25) (K19 sf_law15_count k n3)
noncomputable abbrev l4 (sf_law15_count : ((Option N1) × ((Int) × (Unit))) → Option ((Int) × (Unit))) (k n3 : Nat) : T4 := fun (x0 : Option N1) (x1 x5 : Int) (x25 : Bool) => cutK (run (E sf_law15_count) h k c9) (s4 x0 x1 x5 x25) (K19 sf_law15_count k n3)
abbrev s3 : (Option N1) → Int → Int → ST cx := fun (x0 : Option N1) (x1 x5 : Int) => ({ vars := [(0, .v (.ptr 1) .ro x0), (1, .v (.int .i64) .ro x1), (5, .v (.int .i64) .ro x5)], scr := [], mems := [] } : ST cx)
noncomputable def u3 (sf_law15_count : ((Option N1) × ((Int) × (Unit))) → Option ((Int) × (Unit))) (k n3 : Nat) : T3 := fun (x0 : Option N1) (x1 x5 : Int) => uK (loopL (E sf_law15_count) h k c7 (K15 sf_law15_count k) n3) (s3 x0 x1 x5) ()
noncomputable abbrev l3 (sf_law15_count : ((Option N1) × ((Int) × (Unit))) → Option ((Int) × (Unit))) (k n3 : Nat) : T3 := fun (x0 : Option N1) (x1 x5 : Int) => cutK (loopL (E sf_law15_count) h k c7 (K15 sf_law15_count k) n3) (s3 x0 x1 x5) ()
abbrev s2 : (Option N1) → Int → ST cx := fun (x0 : Option N1) (x1 : Int) => ({ vars := [(0, .v (.ptr 1) .ro x0), (1, .v (.int .i64) .ro x1)], scr := [], mems := [] } : ST cx)
noncomputable def u2 (sf_law15_count : ((Option N1) × ((Int) × (Unit))) → Option ((Int) × (Unit))) (k : Nat) : T2 := fun (x0 : Option N1) (x1 : Int) => uK (run (E sf_law15_count) h k c2) (s2 x0 x1) (K5 sf_law15_count k)
noncomputable abbrev l2 (sf_law15_count : ((Option N1) × ((Int) × (Unit))) → Option ((Int) × (Unit))) (k : Nat) : T2 := fun (x0 : Option N1) (x1 : Int) => cutK (run (E sf_law15_count) h k c2) (s2 x0 x1) (K5 sf_law15_count k)
abbrev s1 : (Option N1) → Int → Bool → ST cx := fun (x0 : Option N1) (x1 : Int) (x13 : Bool) => ({ vars := [(0, .v (.ptr 1) .ro x0), (1, .v (.int .i64) .ro x1), (13, .v .bool .ro x13)], scr := [], mems := [] } : ST cx)
noncomputable def u1 (sf_law15_count : ((Option N1) × ((Int) × (Unit))) → Option ((Int) × (Unit))) (k : Nat) : T1 := fun (x0 : Option N1) (x1 : Int) (x13 : Bool) => uK (run (E sf_law15_count) h k c3) (s1 x0 x1 x13) (K7 sf_law15_count k)
noncomputable abbrev l1 (sf_law15_count : ((Option N1) × ((Int) × (Unit))) → Option ((Int) × (Unit))) (k : Nat) : T1 := fun (x0 : Option N1) (x1 : Int) (x13 : Bool) => cutK (run (E sf_law15_count) h k c3) (s1 x0 x1 x13) (K7 sf_law15_count k)
noncomputable def u0 (sf_law15_count : ((Option N1) × ((Int) × (Unit))) → Option ((Int) × (Unit))) (k : Nat) : T0 := fun (x0 : Option N1) (x1 : Int) => runOf (S := cx) (E sf_law15_count) h k Try.f32 [.val (.ptr 1), .val (.int .i64)] (.int .i64) .ro (x0, x1, ())
def t5 (sf_law15_count : ((Option N1) × ((Int) × (Unit))) → Option ((Int) × (Unit))) (f3 : T3) : T5 := fun (x0 : Option N1) (x1 x5 : Int) => 
  (bindR x0 fun z2 => (withinR x5 (List.length (out1 z2).2.2.2.1) fun q3 => (bindR (sf_law15_count ((List.getD (out1 z2).2.2.2.1 q3 none), (x1, ()))) fun r4 => (f3 x0 r4.1 (w64 (x5 + (1 : Int)))))))
theorem e5 (sf_law15_count : ((Option N1) × ((Int) × (Unit))) → Option ((Int) × (Unit))) (k n3 : Nat) : u5 sf_law15_count k n3 = t5 sf_law15_count (l3 sf_law15_count k n3) := by kernel_rfl
theorem g5 (sf_law15_count : ((Option N1) × ((Int) × (Unit))) → Option ((Int) × (Unit))) (k n3 : Nat) : l5 sf_law15_count k n3 = u5 sf_law15_count k n3 := funext fun _ => funext fun _ => funext fun _ => cut_u _ _ _
theorem d5 (sf_law15_count : ((Option N1) × ((Int) × (Unit))) → Option ((Int) × (Unit))) {x3 y3 : T3} (h3 : x3 = y3) : t5 sf_law15_count x3 = t5 sf_law15_count y3 := by subst h3; rfl
def p5 (sf_law15_count : ((Option N1) × ((Int) × (Unit))) → Option ((Int) × (Unit))) (k : Nat) (a3 : T3) : T5 := t5 sf_law15_count a3
theorem o5 (sf_law15_count : ((Option N1) × ((Int) × (Unit))) → Option ((Int) × (Unit))) (k n3 : Nat) (a3 : T3) (h3 : l3 sf_law15_count k n3 = a3) : l5 sf_law15_count k n3 = p5 sf_law15_count k a3 := (Eq.trans (b := u5 sf_law15_count k n3) (g5 sf_law15_count k n3) (Eq.trans (b := t5 sf_law15_count (l3 sf_law15_count k n3)) (e5 sf_law15_count k n3) (Eq.trans (b := t5 sf_law15_count a3) (d5 sf_law15_count h3) (by kernel_rfl))))
def t6 (sf_law15_count : ((Option N1) × ((Int) × (Unit))) → Option ((Int) × (Unit))) : T6 := fun (x1 : Int) => 
  (some (x1, ()))
theorem e6 (sf_law15_count : ((Option N1) × ((Int) × (Unit))) → Option ((Int) × (Unit))) (k : Nat) : u6 sf_law15_count k = t6 sf_law15_count := by kernel_rfl
theorem g6 (sf_law15_count : ((Option N1) × ((Int) × (Unit))) → Option ((Int) × (Unit))) (k : Nat) : l6 sf_law15_count k = u6 sf_law15_count k := funext fun _ => cut_u _ _ _
def p6 (sf_law15_count : ((Option N1) × ((Int) × (Unit))) → Option ((Int) × (Unit))) (k : Nat) : T6 := t6 sf_law15_count
theorem o6 (sf_law15_count : ((Option N1) × ((Int) × (Unit))) → Option ((Int) × (Unit))) (k : Nat) : l6 sf_law15_count k = p6 sf_law15_count k := (Eq.trans (b := u6 sf_law15_count k) (g6 sf_law15_count k) (Eq.trans (b := t6 sf_law15_count) (e6 sf_law15_count k) (by kernel_rfl)))
def t4 (sf_law15_count : ((Option N1) × ((Int) × (Unit))) → Option ((Int) × (Unit))) (f5 : T5) (f6 : T6) : T4 := fun (x0 : Option N1) (x1 x5 : Int) (x25 : Bool) => 
  (iteB x25 (f5 x0 x1 x5) (f6 x1))
theorem e4 (sf_law15_count : ((Option N1) × ((Int) × (Unit))) → Option ((Int) × (Unit))) (k n3 : Nat) : u4 sf_law15_count k n3 = t4 sf_law15_count (l5 sf_law15_count k n3) (l6 sf_law15_count k) := by kernel_rfl
theorem g4 (sf_law15_count : ((Option N1) × ((Int) × (Unit))) → Option ((Int) × (Unit))) (k n3 : Nat) : l4 sf_law15_count k n3 = u4 sf_law15_count k n3 := funext fun _ => funext fun _ => funext fun _ => funext fun _ => cut_u _ _ _
theorem d4 (sf_law15_count : ((Option N1) × ((Int) × (Unit))) → Option ((Int) × (Unit))) {x5 y5 : T5} {x6 y6 : T6} (h5 : x5 = y5) (h6 : x6 = y6) : t4 sf_law15_count x5 x6 = t4 sf_law15_count y5 y6 := by subst h5; subst h6; rfl
def p4 (sf_law15_count : ((Option N1) × ((Int) × (Unit))) → Option ((Int) × (Unit))) (k : Nat) (a3 : T3) : T4 := t4 sf_law15_count (p5 sf_law15_count k a3) (p6 sf_law15_count k)
theorem o4 (sf_law15_count : ((Option N1) × ((Int) × (Unit))) → Option ((Int) × (Unit))) (k n3 : Nat) (a3 : T3) (h3 : l3 sf_law15_count k n3 = a3) : l4 sf_law15_count k n3 = p4 sf_law15_count k a3 := (Eq.trans (b := u4 sf_law15_count k n3) (g4 sf_law15_count k n3) (Eq.trans (b := t4 sf_law15_count (l5 sf_law15_count k n3) (l6 sf_law15_count k)) (e4 sf_law15_count k n3) (Eq.trans (b := t4 sf_law15_count (p5 sf_law15_count k a3) (p6 sf_law15_count k)) (d4 sf_law15_count (o5 sf_law15_count k n3 a3 h3) (o6 sf_law15_count k)) (by kernel_rfl))))
def t3 (sf_law15_count : ((Option N1) × ((Int) × (Unit))) → Option ((Int) × (Unit))) (f4 : T4) : T3 := fun (x0 : Option N1) (x1 x5 : Int) => 
  (bindR x0 fun z1 => (iteB (decide (x5 < ((List.length (out1 z1).2.2.2.1 : Nat) : Int))) (f4 x0 x1 x5 (decide (x1 ≤ (3000 : Int)))) (f4 x0 x1 x5 false)))
theorem e3 (sf_law15_count : ((Option N1) × ((Int) × (Unit))) → Option ((Int) × (Unit))) (k n3 : Nat) : u3 sf_law15_count k (n3 + 1) = t3 sf_law15_count (l4 sf_law15_count k n3) := by kernel_rfl
theorem g3 (sf_law15_count : ((Option N1) × ((Int) × (Unit))) → Option ((Int) × (Unit))) (k n3 : Nat) : l3 sf_law15_count k (n3 + 1) = u3 sf_law15_count k (n3 + 1) := funext fun _ => funext fun _ => funext fun _ => cut_u _ _ _
theorem d3 (sf_law15_count : ((Option N1) × ((Int) × (Unit))) → Option ((Int) × (Unit))) {x4 y4 : T4} (h4 : x4 = y4) : t3 sf_law15_count x4 = t3 sf_law15_count y4 := by subst h4; rfl
def p3 (sf_law15_count : ((Option N1) × ((Int) × (Unit))) → Option ((Int) × (Unit))) (k : Nat) : Nat → T3
  | 0 => fun _ _ _ => none
  | n3 + 1 => t3 sf_law15_count (p4 sf_law15_count k (p3 sf_law15_count k n3))
theorem o3 (sf_law15_count : ((Option N1) × ((Int) × (Unit))) → Option ((Int) × (Unit))) (k : Nat) : ∀ n3, l3 sf_law15_count k n3 = p3 sf_law15_count k n3 := by
  intro n3
  induction n3 with
  | zero => kernel_rfl
  | succ n3 ih => exact (Eq.trans (b := u3 sf_law15_count k (n3 + 1)) (g3 sf_law15_count k n3) (Eq.trans (b := t3 sf_law15_count (l4 sf_law15_count k n3)) (e3 sf_law15_count k n3) (Eq.trans (b := t3 sf_law15_count (p4 sf_law15_count k (p3 sf_law15_count k n3))) (d3 sf_law15_count (o4 sf_law15_count k n3 (p3 sf_law15_count k n3) ih)) (by kernel_rfl))))
def t2 (sf_law15_count : ((Option N1) × ((Int) × (Unit))) → Option ((Int) × (Unit))) (f3 : T3) : T2 := fun (x0 : Option N1) (x1 : Int) => 
  (f3 x0 x1 (0 : Int))
theorem e2 (sf_law15_count : ((Option N1) × ((Int) × (Unit))) → Option ((Int) × (Unit))) (k : Nat) : u2 sf_law15_count k = t2 sf_law15_count (l3 sf_law15_count k k) := by kernel_rfl
theorem g2 (sf_law15_count : ((Option N1) × ((Int) × (Unit))) → Option ((Int) × (Unit))) (k : Nat) : l2 sf_law15_count k = u2 sf_law15_count k := funext fun _ => funext fun _ => cut_u _ _ _
theorem d2 (sf_law15_count : ((Option N1) × ((Int) × (Unit))) → Option ((Int) × (Unit))) {x3 y3 : T3} (h3 : x3 = y3) : t2 sf_law15_count x3 = t2 sf_law15_count y3 := by subst h3; rfl
def p2 (sf_law15_count : ((Option N1) × ((Int) × (Unit))) → Option ((Int) × (Unit))) (k : Nat) : T2 := t2 sf_law15_count (p3 sf_law15_count k k)
theorem o2 (sf_law15_count : ((Option N1) × ((Int) × (Unit))) → Option ((Int) × (Unit))) (k : Nat) : l2 sf_law15_count k = p2 sf_law15_count k := (Eq.trans (b := u2 sf_law15_count k) (g2 sf_law15_count k) (Eq.trans (b := t2 sf_law15_count (l3 sf_law15_count k k)) (e2 sf_law15_count k) (Eq.trans (b := t2 sf_law15_count (p3 sf_law15_count k k)) (d2 sf_law15_count (o3 sf_law15_count k k)) (by kernel_rfl))))
def t1 (sf_law15_count : ((Option N1) × ((Int) × (Unit))) → Option ((Int) × (Unit))) (f2 : T2) : T1 := fun (x0 : Option N1) (x1 : Int) (x13 : Bool) => 
  (iteB x13 (some (x1, ())) (f2 x0 x1))
theorem e1 (sf_law15_count : ((Option N1) × ((Int) × (Unit))) → Option ((Int) × (Unit))) (k : Nat) : u1 sf_law15_count k = t1 sf_law15_count (l2 sf_law15_count k) := by kernel_rfl
theorem g1 (sf_law15_count : ((Option N1) × ((Int) × (Unit))) → Option ((Int) × (Unit))) (k : Nat) : l1 sf_law15_count k = u1 sf_law15_count k := funext fun _ => funext fun _ => funext fun _ => cut_u _ _ _
theorem d1 (sf_law15_count : ((Option N1) × ((Int) × (Unit))) → Option ((Int) × (Unit))) {x2 y2 : T2} (h2 : x2 = y2) : t1 sf_law15_count x2 = t1 sf_law15_count y2 := by subst h2; rfl
def p1 (sf_law15_count : ((Option N1) × ((Int) × (Unit))) → Option ((Int) × (Unit))) (k : Nat) : T1 := t1 sf_law15_count (p2 sf_law15_count k)
theorem o1 (sf_law15_count : ((Option N1) × ((Int) × (Unit))) → Option ((Int) × (Unit))) (k : Nat) : l1 sf_law15_count k = p1 sf_law15_count k := (Eq.trans (b := u1 sf_law15_count k) (g1 sf_law15_count k) (Eq.trans (b := t1 sf_law15_count (l2 sf_law15_count k)) (e1 sf_law15_count k) (Eq.trans (b := t1 sf_law15_count (p2 sf_law15_count k)) (d1 sf_law15_count (o2 sf_law15_count k)) (by kernel_rfl))))
def t0 (sf_law15_count : ((Option N1) × ((Int) × (Unit))) → Option ((Int) × (Unit))) (f1 : T1) : T0 := fun (x0 : Option N1) (x1 : Int) => 
  (iteB (Option.isNone x0) (f1 x0 (w64 (x1 + (1 : Int))) true) (f1 x0 (w64 (x1 + (1 : Int))) (decide ((3000 : Int) < (w64 (x1 + (1 : Int)))))))
theorem e0 (sf_law15_count : ((Option N1) × ((Int) × (Unit))) → Option ((Int) × (Unit))) (k : Nat) : u0 sf_law15_count k = t0 sf_law15_count (l1 sf_law15_count k) := by kernel_rfl
theorem d0 (sf_law15_count : ((Option N1) × ((Int) × (Unit))) → Option ((Int) × (Unit))) {x1 y1 : T1} (h1 : x1 = y1) : t0 sf_law15_count x1 = t0 sf_law15_count y1 := by subst h1; rfl
def p0 (sf_law15_count : ((Option N1) × ((Int) × (Unit))) → Option ((Int) × (Unit))) (k : Nat) : T0 := t0 sf_law15_count (p1 sf_law15_count k)
theorem o0 (sf_law15_count : ((Option N1) × ((Int) × (Unit))) → Option ((Int) × (Unit))) (k : Nat) : u0 sf_law15_count k = p0 sf_law15_count k := (Eq.trans (b := t0 sf_law15_count (l1 sf_law15_count k)) (e0 sf_law15_count k) (Eq.trans (b := t0 sf_law15_count (p1 sf_law15_count k)) (d0 sf_law15_count (o1 sf_law15_count k)) (by kernel_rfl)))
end law15_count
def r_law15_count : Nat → ((Option N1) × ((Int) × (Unit))) → Option ((Int) × (Unit))
  | 0, _ => none
  | n + 1, a => law15_count.p0 (r_law15_count n) (fuel) a.1 a.2.1
theorem okr_law15_count : ∀ n, FnOk Try.prog (Fr_law15_count (r_law15_count n)) 32
  | 0 => fn_none (fun _ => rfl)
  | n + 1 => fn_of (F := Fr_law15_count (r_law15_count (n + 1))) (hn := law15_count.h) (E := law15_count.E (r_law15_count n)) cxOk (tysT _ _ _) (fs_cons (okr_law15_count n) fs_nil) follows Try.func32 (by kernel_rfl) (fun a r h => ⟨fuel, Eq.trans (c := some r) (congrFun (congrFun (law15_count.o0 (r_law15_count n) (fuel)) a.1) a.2.1) h⟩)
def s_law15_count (a : (Option N1) × ((Int) × (Unit))) : Option ((Int) × (Unit)) := r_law15_count (fuel) a
noncomputable def F_law15_count : FSpec cx.toNm := Fr_law15_count s_law15_count
theorem ok_law15_count : FnOk Try.prog F_law15_count 32 := fun w Z own vs a r h1 h2 h3 h4 => (okr_law15_count (fuel)) w Z own vs a r h1 h2 h3 h4
namespace law15_Great
noncomputable def E : Env cx := { tys := tys, fs := fsOf [(32, F_law15_count)] }
abbrev R := Option ((Bool) × (Unit))
abbrev C := Exit → ST cx → R
noncomputable def b : Code := bodyC Try.f10
noncomputable def h : Hint := { vs := [0, 2], nil := [], cuts := [], ret := ([2], []), ords := [] }
noncomputable def K0 : C := fin (S := cx) E Try.f10.results.toList .bool .ro [] []
noncomputable def c0 : Code := subC b [1]
noncomputable def K1 (k : Nat) : C := outD h c0 K0
noncomputable def K2 (k : Nat) : C := seqC E h k c0 K0
noncomputable def c1 : Code := subC b [1, 1]
noncomputable def K3 (k : Nat) : C := outD h c1 (K1 k)
noncomputable def K4 (k : Nat) : C := seqC E h k c1 (K1 k)
abbrev T0 := (Option N1) → R
noncomputable def u0 (k : Nat) : T0 := fun (x0 : Option N1) => runOf (S := cx) E h k Try.f10 [.val (.ptr 1)] .bool .ro (x0, ())
def t0 : T0 := fun (x0 : Option N1) => 
  (bindR (s_law15_count (x0, ((0 : Int), ()))) fun r1 => (some ((decide ((3000 : Int) < r1.1)), ())))
theorem e0 (k : Nat) : u0 k = t0 := by kernel_rfl
def p0 (k : Nat) : T0 := t0
theorem o0 (k : Nat) : u0 k = p0 k := (Eq.trans (b := t0) (e0 k) (by kernel_rfl))
end law15_Great
def s_law15_Great (a : (Option N1) × (Unit)) : Option ((Bool) × (Unit)) := law15_Great.p0 (fuel) a.1
noncomputable def F_law15_Great : FSpec cx.toNm := { ps := [.val (.ptr 1)], nres := 1, rt := .bool, rm := .ro, f := s_law15_Great }
theorem w_law15_Great (a : (Option N1) × (Unit)) : runOf (S := cx) law15_Great.E law15_Great.h (fuel) Try.f10 F_law15_Great.ps F_law15_Great.rt F_law15_Great.rm a = s_law15_Great a := Eq.trans (b := law15_Great.u0 (fuel) a.1) (by kernel_rfl) (Eq.trans (b := law15_Great.p0 (fuel) a.1) (congrFun (law15_Great.o0 (fuel)) a.1) (by kernel_rfl))
theorem ok_law15_Great : FnOk Try.prog F_law15_Great 10 := fn_of (F := F_law15_Great) (hn := law15_Great.h) (E := law15_Great.E) cxOk (tysT _ _ _) (fs_cons ok_law15_count fs_nil) follows Try.func10 (by kernel_rfl) (fun a r h => ⟨fuel, Eq.trans (w_law15_Great a) h⟩)
namespace tree_Span
noncomputable def E : Env cx := { tys := tys, fs := fsOf [(28, F_tree_At), (40, F_tree_toks)] }
abbrev R := Option (((Int) × ((Int) × (Int))) × (Unit))
abbrev C := Exit → ST cx → R
noncomputable def b : Code := bodyC Try.f22
noncomputable def h : Hint := { vs := [0, 1, 4, 5, 6, 7, 8, 9, 11, 20, 21, 22], nil := [], cuts := [(6, ([0, 7, 9, 20, 21, 22], []), ([7, 9], [])), (11, ([7, 9], []), ([7, 9], []))], ret := ([4, 5, 6], []), ords := [] }
noncomputable def K0 : C := fin (S := cx) E Try.f22.results.toList (.pair (.int .i64) (.pair (.int .i64) (.int .i64))) .ro [] []
noncomputable def c0 : Code := subC b [1]
noncomputable def K1 (k : Nat) : C := outD h c0 K0
noncomputable def K2 (k : Nat) : C := seqC E h k c0 K0
noncomputable def c1 : Code := subC b [1, 1]
noncomputable def K3 (k : Nat) : C := outD h c1 (K1 k)
noncomputable def K4 (k : Nat) : C := seqC E h k c1 (K1 k)
noncomputable def c2 : Code := subC b [1, 1, 1]
noncomputable def K5 (k : Nat) : C := outD h c2 (K3 k)
noncomputable def K6 (k : Nat) : C := seqC E h k c2 (K3 k)
noncomputable def c3 : Code := subC b [1, 1, 0, 1]
noncomputable def K7 (k : Nat) : C := outD h c3 (K6 k)
noncomputable def K8 (k : Nat) : C := seqC E h k c3 (K6 k)
noncomputable def c4 : Code := subC b [1, 1, 0, 1, 0, 1]
noncomputable def K9 (k : Nat) : C := outD h c4 (K7 k)
noncomputable def K10 (k : Nat) : C := seqC E h k c4 (K7 k)
noncomputable def c5 : Code := subC b [1, 1, 1, 1]
noncomputable def K11 (k : Nat) : C := outD h c5 (K5 k)
noncomputable def K12 (k : Nat) : C := seqC E h k c5 (K5 k)
noncomputable def c6 : Code := subC b [1, 1, 1, 1, 1]
noncomputable def K13 (k : Nat) : C := outD h c6 (K11 k)
noncomputable def K14 (k : Nat) : C := seqC E h k c6 (K11 k)
noncomputable def c7 : Code := subC b [1, 1, 1, 1, 0, 1]
noncomputable def K15 (k : Nat) : C := outD h c7 (K14 k)
noncomputable def K16 (k : Nat) : C := seqC E h k c7 (K14 k)
noncomputable def K17 (k : Nat) : C := blockK 0 (K15 k)
noncomputable def c8 : Code := subC b [1, 1, 1, 1, 0, 1, 0, 0]
noncomputable def K18 (k n1 : Nat) : C := loopD E h k c8 (K17 k) n1
noncomputable def c9 : Code := subC b [1, 1, 1, 1, 0, 1, 0, 0, 1]
noncomputable def K19 (k n1 : Nat) : C := outD h c9 (K18 k n1)
noncomputable def K20 (k n1 : Nat) : C := seqC E h k c9 (K18 k n1)
noncomputable def c10 : Code := subC b [1, 1, 1, 1, 0, 1, 0, 0, 1, 1]
noncomputable def K21 (k n1 : Nat) : C := outD h c10 (K19 k n1)
noncomputable def K22 (k n1 : Nat) : C := seqC E h k c10 (K19 k n1)
noncomputable def c11 : Code := subC b [1, 1, 1, 1, 0, 1, 0, 0, 1, 1, 1]
noncomputable def K23 (k n1 : Nat) : C := outD h c11 (K21 k n1)
noncomputable def K24 (k n1 : Nat) : C := seqC E h k c11 (K21 k n1)
noncomputable def K25 (k n1 : Nat) : C := blockK 1 (K24 k n1)
noncomputable def c12 : Code := subC b [1, 1, 1, 1, 0, 1, 0, 0, 1, 1, 0, 0, 1]
noncomputable def K26 (k n1 : Nat) : C := outD h c12 (K25 k n1)
noncomputable def K27 (k n1 : Nat) : C := seqC E h k c12 (K25 k n1)
noncomputable def c13 : Code := subC b [1, 1, 1, 1, 0, 1, 0, 0, 1, 1, 0, 0, 1, 1]
noncomputable def K28 (k n1 : Nat) : C := outD h c13 (K26 k n1)
noncomputable def K29 (k n1 : Nat) : C := seqC E h k c13 (K26 k n1)
noncomputable def c14 : Code := subC b [1, 1, 1, 1, 1, 1]
noncomputable def K30 (k : Nat) : C := outD h c14 (K13 k)
noncomputable def K31 (k : Nat) : C := seqC E h k c14 (K13 k)
abbrev T2 := (Option N1) → Int → R
abbrev T1 := (Option N1) → (Option N1) → Int → (List (Int)) → Int → Int → R
abbrev T0 := (Option N1) → (List (Int)) → R
abbrev s2 : (Option N1) → Int → ST cx := fun (x7 : Option N1) (x9 : Int) => ({ vars := [(7, .v (.ptr 1) .ro x7), (9, .v (.int .i64) .ro x9)], scr := [], mems := [] } : ST cx)
noncomputable def u2 (k : Nat) : T2 := fun (x7 : Option N1) (x9 : Int) => uK (run E h k c6) (s2 x7 x9) (K13 k)
noncomputable abbrev l2 (k : Nat) : T2 := fun (x7 : Option N1) (x9 : Int) => cutK (run E h k c6) (s2 x7 x9) (K13 k)
abbrev s1 : (Option N1) → (Option N1) → Int → (List (Int)) → Int → Int → ST cx := fun (x0 x7 : Option N1) (x9 : Int) (x20 : List (Int)) (x21 x22 : Int) => ({ vars := [(0, .v (.ptr 1) .ro x0), (7, .v (.ptr 1) .ro x7), (9, .v (.int .i64) .ro x9), (20, .v (.slice 3 (.int .i64)) .ro x20), (21, .v (.int .i64) .ro x21), (22, .v (.int .i64) .ro x22)], scr := [], mems := [] } : ST cx)
noncomputable def u1 (k n1 : Nat) : T1 := fun (x0 x7 : Option N1) (x9 : Int) (x20 : List (Int)) (x21 x22 : Int) => uK (loopL E h k c8 (K17 k) n1) (s1 x0 x7 x9 x20 x21 x22) ()
noncomputable abbrev l1 (k n1 : Nat) : T1 := fun (x0 x7 : Option N1) (x9 : Int) (x20 : List (Int)) (x21 x22 : Int) => cutK (loopL E h k c8 (K17 k) n1) (s1 x0 x7 x9 x20 x21 x22) ()
noncomputable def u0 (k : Nat) : T0 := fun (x0 : Option N1) (x1 : List (Int)) => runOf (S := cx) E h k Try.f22 [.val (.ptr 1), .val (.slice 3 (.int .i64))] (.pair (.int .i64) (.pair (.int .i64) (.int .i64))) .ro (x0, x1, ())
def t2 : T2 := fun (x7 : Option N1) (x9 : Int) => 
  (bindR x7 fun z7 => (some ((x9, ((w64 (x9 + (out1 z7).2.2.2.2.1)), (0 : Int))), ())))
theorem e2 (k : Nat) : u2 k = t2 := by kernel_rfl
theorem g2 (k : Nat) : l2 k = u2 k := funext fun _ => funext fun _ => cut_u _ _ _
def p2 (k : Nat) : T2 := t2
theorem o2 (k : Nat) : l2 k = p2 k := (Eq.trans (b := u2 k) (g2 k) (Eq.trans (b := t2) (e2 k) (by kernel_rfl)))
def t1 (f1 : T1) (f2 : T2) : T1 := fun (x0 x7 : Option N1) (x9 : Int) (x20 : List (Int)) (x21 x22 : Int) => 
  (iteB (decide (x22 < x21)) (withinR x22 (List.length x20) fun q2 => (bindR x0 fun z3 => (mustR (decide (0 ≤ (List.getD x20 q2 (0 : Int)))) (mustR (decide ((List.getD x20 q2 (0 : Int)) ≤ (((List.length (out1 z3).2.2.2.1) : Nat) : Int))) (bindR (s_tree_toks ((List.drop 0 (List.take (Int.toNat (List.getD x20 q2 (0 : Int))) (out1 z3).2.2.2.1)), ())) fun r4 => (bindR x0 fun z5 => (withinR (List.getD x20 q2 (0 : Int)) (List.length (out1 z5).2.2.2.1) fun q6 => (f1 (List.getD (out1 z5).2.2.2.1 q6 none) x7 (w64 (x9 + r4.1)) x20 x21 (w64 (x22 + (1 : Int))))))))))) (f2 x7 x9))
theorem e1 (k n1 : Nat) : u1 k (n1 + 1) = t1 (l1 k n1) (l2 k) := by kernel_rfl
theorem g1 (k n1 : Nat) : l1 k (n1 + 1) = u1 k (n1 + 1) := funext fun _ => funext fun _ => funext fun _ => funext fun _ => funext fun _ => funext fun _ => cut_u _ _ _
theorem d1 {x1 y1 : T1} {x2 y2 : T2} (h1 : x1 = y1) (h2 : x2 = y2) : t1 x1 x2 = t1 y1 y2 := by subst h1; subst h2; rfl
def p1 (k : Nat) : Nat → T1
  | 0 => fun _ _ _ _ _ _ => none
  | n1 + 1 => t1 (p1 k n1) (p2 k)
theorem o1 (k : Nat) : ∀ n1, l1 k n1 = p1 k n1 := by
  intro n1
  induction n1 with
  | zero => kernel_rfl
  | succ n1 ih => exact (Eq.trans (b := u1 k (n1 + 1)) (g1 k n1) (Eq.trans (b := t1 (l1 k n1) (l2 k)) (e1 k n1) (Eq.trans (b := t1 (p1 k n1) (p2 k)) (d1 ih (o2 k)) (by kernel_rfl))))
def t0 (f1 : T1) : T0 := fun (x0 : Option N1) (x1 : List (Int)) => 
  (bindR (s_tree_At (x0, (x1, ()))) fun r1 => (iteB (notB r1.1.2) (some (((0 : Int), ((0 : Int), (7 : Int))), ())) (f1 x0 r1.1.1 (0 : Int) x1 ((List.length x1 : Nat) : Int) (0 : Int))))
theorem e0 (k : Nat) : u0 k = t0 (l1 k k) := by kernel_rfl
theorem d0 {x1 y1 : T1} (h1 : x1 = y1) : t0 x1 = t0 y1 := by subst h1; rfl
def p0 (k : Nat) : T0 := t0 (p1 k k)
theorem o0 (k : Nat) : u0 k = p0 k := (Eq.trans (b := t0 (l1 k k)) (e0 k) (Eq.trans (b := t0 (p1 k k)) (d0 (o1 k k)) (by kernel_rfl)))
end tree_Span
def s_tree_Span (a : (Option N1) × ((List (Int)) × (Unit))) : Option (((Int) × ((Int) × (Int))) × (Unit)) := tree_Span.p0 (fuel) a.1 a.2.1
noncomputable def F_tree_Span : FSpec cx.toNm := { ps := [.val (.ptr 1), .val (.slice 3 (.int .i64))], nres := 3, rt := (.pair (.int .i64) (.pair (.int .i64) (.int .i64))), rm := .ro, f := s_tree_Span }
theorem w_tree_Span (a : (Option N1) × ((List (Int)) × (Unit))) : runOf (S := cx) tree_Span.E tree_Span.h (fuel) Try.f22 F_tree_Span.ps F_tree_Span.rt F_tree_Span.rm a = s_tree_Span a := Eq.trans (b := tree_Span.u0 (fuel) a.1 a.2.1) (by kernel_rfl) (Eq.trans (b := tree_Span.p0 (fuel) a.1 a.2.1) (congrFun (congrFun (tree_Span.o0 (fuel)) a.1) a.2.1) (by kernel_rfl))
theorem ok_tree_Span : FnOk Try.prog F_tree_Span 22 := fn_of (F := F_tree_Span) (hn := tree_Span.h) (E := tree_Span.E) cxOk (tysT _ _ _) (fs_cons ok_tree_At (fs_cons ok_tree_toks fs_nil)) follows Try.func22 (by kernel_rfl) (fun a r h => ⟨fuel, Eq.trans (w_tree_Span a) h⟩)
end
end Go.Proofs.Ytdnkjfmneppkoaa.Vm.Tr
namespace Go.Proofs.Ytdnkjfmneppkoaa.Vm.Tr
open Go Go.Proofs.Ytdnkjfmneppkoaa.Vm
set_option maxRecDepth 100000
theorem alive_is : s_law15_alive () = some (true, ()) := by kernel_rfl
end Go.Proofs.Ytdnkjfmneppkoaa.Vm.Tr
