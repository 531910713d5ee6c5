/- What the functions of the layer compute, as plain functions; that they do. -/
import Derived.Test.YtdifekkamjoepaaLib
namespace Go.Proofs.Ytdifekkamjoepaa.Vm.Rp
open Go Go.Proofs.Ytdifekkamjoepaa.Vm Go.Proofs
set_option linter.unusedVariables false
set_option maxRecDepth 100000
noncomputable section
namespace ref01_Follower
noncomputable def E : Env cx := { tys := tys, fs := fsOf [] }
abbrev R := Option ((Bool) × (Unit))
abbrev C := Exit → ST cx → R
noncomputable def b : Code := bodyC Try.f103
noncomputable def h : Hint := { vs := [0, 2], nil := [], cuts := [], ret := ([2], []), ords := [] }
noncomputable def K0 : C := fin (S := cx) E Try.f103.results.toList .bool .ro [] []
noncomputable def c0 : Code := subC b [1]
noncomputable def K1 (k : Nat) : C := outD h c0 K0
noncomputable def K2 (k : Nat) : C := seqC E h k c0 K0
noncomputable def c1 : Code := subC b [1, 1]
noncomputable def K3 (k : Nat) : C := outD h c1 (K1 k)
noncomputable def K4 (k : Nat) : C := seqC E h k c1 (K1 k)
abbrev T0 := Int → R
noncomputable def u0 (k : Nat) : T0 := fun (x0 : Int) => runOf (S := cx) E h k Try.f103 [.val (.int .u8)] .bool .ro (x0, ())
def t0 : T0 := fun (x0 : Int) => 
  (iteB (decide ((128 : Int) ≤ x0)) (some ((decide (x0 ≤ (191 : Int))), ())) (some (false, ())))
theorem e0 (k : Nat) : u0 k = t0 := by kernel_rfl
def p0 (k : Nat) : T0 := t0
theorem o0 (k : Nat) : u0 k = p0 k := (Eq.trans (b := t0) (e0 k) (by kernel_rfl))
end ref01_Follower
def s_ref01_Follower (a : (Int) × (Unit)) : Option ((Bool) × (Unit)) := ref01_Follower.p0 (fuel) a.1
noncomputable def F_ref01_Follower : FSpec cx.toNm := { ps := [.val (.int .u8)], nres := 1, rt := .bool, rm := .ro, f := s_ref01_Follower }
namespace runes_isFollower
noncomputable def E : Env cx := { tys := tys, fs := fsOf [] }
abbrev R := Option ((Bool) × (Unit))
abbrev C := Exit → ST cx → R
noncomputable def b : Code := bodyC Try.f128
noncomputable def h : Hint := { vs := [0, 2], nil := [], cuts := [], ret := ([2], []), ords := [] }
noncomputable def K0 : C := fin (S := cx) E Try.f128.results.toList .bool .ro [] []
noncomputable def c0 : Code := subC b [1]
noncomputable def K1 (k : Nat) : C := outD h c0 K0
noncomputable def K2 (k : Nat) : C := seqC E h k c0 K0
noncomputable def c1 : Code := subC b [1, 1]
noncomputable def K3 (k : Nat) : C := outD h c1 (K1 k)
noncomputable def K4 (k : Nat) : C := seqC E h k c1 (K1 k)
abbrev T0 := Int → R
noncomputable def u0 (k : Nat) : T0 := fun (x0 : Int) => runOf (S := cx) E h k Try.f128 [.val (.int .u8)] .bool .ro (x0, ())
def t0 : T0 := fun (x0 : Int) => 
  (some ((decide ((bitI .and .u8 x0 (192 : Int)) = (128 : Int))), ()))
theorem e0 (k : Nat) : u0 k = t0 := by kernel_rfl
def p0 (k : Nat) : T0 := t0
theorem o0 (k : Nat) : u0 k = p0 k := (Eq.trans (b := t0) (e0 k) (by kernel_rfl))
end runes_isFollower
def s_runes_isFollower (a : (Int) × (Unit)) : Option ((Bool) × (Unit)) := runes_isFollower.p0 (fuel) a.1
noncomputable def F_runes_isFollower : FSpec cx.toNm := { ps := [.val (.int .u8)], nres := 1, rt := .bool, rm := .ro, f := s_runes_isFollower }
namespace runes_Count
noncomputable def E : Env cx := { tys := tys, fs := fsOf [(128, F_runes_isFollower)] }
abbrev R := Option ((Int) × (Unit))
abbrev C := Exit → ST cx → R
noncomputable def b : Code := bodyC Try.f135
noncomputable def h : Hint := { vs := [0, 2, 3, 4, 6, 7], nil := [], cuts := [(3, ([0, 3, 6, 7], []), ([3], [])), (7, ([0, 3, 6, 7], []), ([0, 3, 6, 7], [])), (8, ([3], []), ([3], []))], ret := ([2], []), ords := [] }
noncomputable def K0 : C := fin (S := cx) E Try.f135.results.toList (.int .i64) .ro [] []
noncomputable def c0 : Code := subC b [1]
noncomputable def K1 (k : Nat) : C := outD h c0 K0
noncomputable def K2 (k : Nat) : C := seqC E h k c0 K0
noncomputable def c1 : Code := subC b [1, 1]
noncomputable def K3 (k : Nat) : C := outD h c1 (K1 k)
noncomputable def K4 (k : Nat) : C := seqC E h k c1 (K1 k)
noncomputable def c2 : Code := subC b [1, 1, 1]
noncomputable def K5 (k : Nat) : C := outD h c2 (K3 k)
noncomputable def K6 (k : Nat) : C := seqC E h k c2 (K3 k)
noncomputable def c3 : Code := subC b [1, 1, 0, 1]
noncomputable def K7 (k : Nat) : C := outD h c3 (K6 k)
noncomputable def K8 (k : Nat) : C := seqC E h k c3 (K6 k)
noncomputable def K9 (k : Nat) : C := blockK 0 (K7 k)
noncomputable def c4 : Code := subC b [1, 1, 0, 1, 0, 0]
noncomputable def K10 (k n1 : Nat) : C := loopD E h k c4 (K9 k) n1
noncomputable def c5 : Code := subC b [1, 1, 0, 1, 0, 0, 1]
noncomputable def K11 (k n1 : Nat) : C := outD h c5 (K10 k n1)
noncomputable def K12 (k n1 : Nat) : C := seqC E h k c5 (K10 k n1)
noncomputable def c6 : Code := subC b [1, 1, 0, 1, 0, 0, 1, 1]
noncomputable def K13 (k n1 : Nat) : C := outD h c6 (K11 k n1)
noncomputable def K14 (k n1 : Nat) : C := seqC E h k c6 (K11 k n1)
noncomputable def c7 : Code := subC b [1, 1, 0, 1, 0, 0, 1, 1, 1]
noncomputable def K15 (k n1 : Nat) : C := outD h c7 (K13 k n1)
noncomputable def K16 (k n1 : Nat) : C := seqC E h k c7 (K13 k n1)
noncomputable def K17 (k n1 : Nat) : C := blockK 1 (K16 k n1)
noncomputable def c8 : Code := subC b [1, 1, 0, 1, 0, 0, 1, 1, 0, 0, 1]
noncomputable def K18 (k n1 : Nat) : C := outD h c8 (K17 k n1)
noncomputable def K19 (k n1 : Nat) : C := seqC E h k c8 (K17 k n1)
noncomputable def c9 : Code := subC b [1, 1, 0, 1, 0, 0, 1, 1, 0, 0, 1, 1]
noncomputable def K20 (k n1 : Nat) : C := outD h c9 (K18 k n1)
noncomputable def K21 (k n1 : Nat) : C := seqC E h k c9 (K18 k n1)
noncomputable def c10 : Code := subC b [1, 1, 1, 1]
noncomputable def K22 (k : Nat) : C := outD h c10 (K5 k)
noncomputable def K23 (k : Nat) : C := seqC E h k c10 (K5 k)
abbrev T2 := (List UInt8) → Int → Int → Int → R
abbrev T3 := Int → R
abbrev T1 := (List UInt8) → Int → Int → Int → R
abbrev T0 := (List UInt8) → R
abbrev s2 : (List UInt8) → Int → Int → Int → ST cx := fun (x0 : List UInt8) (x3 x6 x7 : Int) => ({ vars := [(0, .v .str .ro x0), (3, .v (.int .i64) .ro x3), (6, .v (.int .i64) .ro x6), (7, .v (.int .i64) .ro x7)], scr := [], mems := [] } : ST cx)
noncomputable def u2 (k n1 : Nat) : T2 := fun (x0 : List UInt8) (x3 x6 x7 : Int) => uK (run E h k c7) (s2 x0 x3 x6 x7) (K15 k n1)
noncomputable abbrev l2 (k n1 : Nat) : T2 := fun (x0 : List UInt8) (x3 x6 x7 : Int) => cutK (run E h k c7) (s2 x0 x3 x6 x7) (K15 k n1)
abbrev s3 : Int → ST cx := fun (x3 : Int) => ({ vars := [(3, .v (.int .i64) .ro x3)], scr := [], mems := [] } : ST cx)
noncomputable def u3 (k : Nat) : T3 := fun (x3 : Int) => uK (run E h k c2) (s3 x3) (K5 k)
noncomputable abbrev l3 (k : Nat) : T3 := fun (x3 : Int) => cutK (run E h k c2) (s3 x3) (K5 k)
abbrev s1 : (List UInt8) → Int → Int → Int → ST cx := fun (x0 : List UInt8) (x3 x6 x7 : Int) => ({ vars := [(0, .v .str .ro x0), (3, .v (.int .i64) .ro x3), (6, .v (.int .i64) .ro x6), (7, .v (.int .i64) .ro x7)], scr := [], mems := [] } : ST cx)
noncomputable def u1 (k n1 : Nat) : T1 := fun (x0 : List UInt8) (x3 x6 x7 : Int) => uK (loopL E h k c4 (K9 k) n1) (s1 x0 x3 x6 x7) ()
noncomputable abbrev l1 (k n1 : Nat) : T1 := fun (x0 : List UInt8) (x3 x6 x7 : Int) => cutK (loopL E h k c4 (K9 k) n1) (s1 x0 x3 x6 x7) ()
noncomputable def u0 (k : Nat) : T0 := fun (x0 : List UInt8) => runOf (S := cx) E h k Try.f135 [.val .str] (.int .i64) .ro (x0, ())
def t2 (f1 : T1) : T2 := fun (x0 : List UInt8) (x3 x6 x7 : Int) => 
  (f1 x0 x3 x6 (w64 (x7 + (1 : Int))))
theorem e2 (k n1 : Nat) : u2 k n1 = t2 (l1 k n1) := by kernel_rfl
theorem g2 (k n1 : Nat) : l2 k n1 = u2 k n1 := funext fun _ => funext fun _ => funext fun _ => funext fun _ => cut_u _ _ _
theorem d2 {x1 y1 : T1} (h1 : x1 = y1) : t2 x1 = t2 y1 := by subst h1; rfl
def p2 (k : Nat) (a1 : T1) : T2 := t2 a1
theorem o2 (k n1 : Nat) (a1 : T1) (h1 : l1 k n1 = a1) : l2 k n1 = p2 k a1 := (Eq.trans (b := u2 k n1) (g2 k n1) (Eq.trans (b := t2 (l1 k n1)) (e2 k n1) (Eq.trans (b := t2 a1) (d2 h1) (by kernel_rfl))))
def t3 : T3 := fun (x3 : Int) => 
  (some (x3, ()))
theorem e3 (k : Nat) : u3 k = t3 := by kernel_rfl
theorem g3 (k : Nat) : l3 k = u3 k := funext fun _ => cut_u _ _ _
def p3 (k : Nat) : T3 := t3
theorem o3 (k : Nat) : l3 k = p3 k := (Eq.trans (b := u3 k) (g3 k) (Eq.trans (b := t3) (e3 k) (by kernel_rfl)))
def t1 (f2 : T2) (f3 : T3) : T1 := fun (x0 : List UInt8) (x3 x6 x7 : Int) => 
  (iteB (decide (x7 < x6)) (withinR x7 (List.length x0) fun q1 => (bindR (s_runes_isFollower ((byteAt x0 q1), ())) fun r2 => (iteB (notB r2.1) (f2 x0 (w64 (x3 + (1 : Int))) x6 x7) (f2 x0 x3 x6 x7)))) (f3 x3))
theorem e1 (k n1 : Nat) : u1 k (n1 + 1) = t1 (l2 k n1) (l3 k) := by kernel_rfl
theorem g1 (k n1 : Nat) : l1 k (n1 + 1) = u1 k (n1 + 1) := funext fun _ => funext fun _ => funext fun _ => funext fun _ => cut_u _ _ _
theorem d1 {x2 y2 : T2} {x3 y3 : T3} (h2 : x2 = y2) (h3 : x3 = y3) : t1 x2 x3 = t1 y2 y3 := by subst h2; subst h3; rfl
def p1 (k : Nat) : Nat → T1
  | 0 => fun _ _ _ _ => none
  | n1 + 1 => t1 (p2 k (p1 k n1)) (p3 k)
theorem o1 (k : Nat) : ∀ n1, l1 k n1 = p1 k n1 := by
  intro n1
  induction n1 with
  | zero => kernel_rfl
  | succ n1 ih => exact (Eq.trans (b := u1 k (n1 + 1)) (g1 k n1) (Eq.trans (b := t1 (l2 k n1) (l3 k)) (e1 k n1) (Eq.trans (b := t1 (p2 k (p1 k n1)) (p3 k)) (d1 (o2 k n1 (p1 k n1) ih) (o3 k)) (by kernel_rfl))))
def t0 (f1 : T1) : T0 := fun (x0 : List UInt8) => 
  (f1 x0 (0 : Int) ((List.length x0 : Nat) : Int) (0 : Int))
theorem e0 (k : Nat) : u0 k = t0 (l1 k k) := by kernel_rfl
theorem d0 {x1 y1 : T1} (h1 : x1 = y1) : t0 x1 = t0 y1 := by subst h1; rfl
def p0 (k : Nat) : T0 := t0 (p1 k k)
theorem o0 (k : Nat) : u0 k = p0 k := (Eq.trans (b := t0 (l1 k k)) (e0 k) (Eq.trans (b := t0 (p1 k k)) (d0 (o1 k k)) (by kernel_rfl)))
end runes_Count
def s_runes_Count (a : (List UInt8) × (Unit)) : Option ((Int) × (Unit)) := runes_Count.p0 (fuel) a.1
noncomputable def F_runes_Count : FSpec cx.toNm := { ps := [.val .str], nres := 1, rt := (.int .i64), rm := .ro, f := s_runes_Count }
namespace rope_piece
noncomputable def E : Env cx := { tys := tys, fs := fsOf [(134, F_Count), (135, F_runes_Count)] }
abbrev R := Option ((Option N0) × (Unit))
abbrev C := Exit → ST cx → R
noncomputable def b : Code := bodyC Try.f124
noncomputable def h : Hint := { vs := [0, 2], nil := [], cuts := [], ret := ([2], [12]), ords := [] }
noncomputable def K0 : C := fin (S := cx) E Try.f124.results.toList (.ptr 0) .ro [] []
noncomputable def c0 : Code := subC b [1]
noncomputable def K1 (k : Nat) : C := outD h c0 K0
noncomputable def K2 (k : Nat) : C := seqC E h k c0 K0
noncomputable def c1 : Code := subC b [1, 1]
noncomputable def K3 (k : Nat) : C := outD h c1 (K1 k)
noncomputable def K4 (k : Nat) : C := seqC E h k c1 (K1 k)
abbrev T0 := (List UInt8) → R
noncomputable def u0 (k : Nat) : T0 := fun (x0 : List UInt8) => runOf (S := cx) E h k Try.f124 [.val .str] (.ptr 0) .ro (x0, ())
def t0 : T0 := fun (x0 : List UInt8) => 
  (bindR (s_Count (x0, (([10] : List UInt8), ()))) fun r1 => (bindR (s_runes_Count (x0, ())) fun r2 => (some ((some (pk0 ((((List.length x0 : Nat) : Int), (r1.1, (r2.1, (1 : Int)))), (x0, (none, none))))), ()))))
theorem e0 (k : Nat) : u0 k = t0 := by kernel_rfl
def p0 (k : Nat) : T0 := t0
theorem o0 (k : Nat) : u0 k = p0 k := (Eq.trans (b := t0) (e0 k) (by kernel_rfl))
end rope_piece
def s_rope_piece (a : (List UInt8) × (Unit)) : Option ((Option N0) × (Unit)) := rope_piece.p0 (fuel) a.1
noncomputable def F_rope_piece : FSpec cx.toNm := { ps := [.val .str], nres := 1, rt := (.ptr 0), rm := .ro, f := s_rope_piece }
namespace rope_both
noncomputable def E : Env cx := { tys := tys, fs := fsOf [] }
abbrev R := Option ((Option N0) × (Unit))
abbrev C := Exit → ST cx → R
noncomputable def b : Code := bodyC Try.f125
noncomputable def h : Hint := { vs := [0, 1, 4], nil := [], cuts := [], ret := ([4], [54]), ords := [] }
noncomputable def K0 : C := fin (S := cx) E Try.f125.results.toList (.ptr 0) .ro [] []
noncomputable def c0 : Code := subC b [1]
noncomputable def K1 (k : Nat) : C := outD h c0 K0
noncomputable def K2 (k : Nat) : C := seqC E h k c0 K0
noncomputable def c1 : Code := subC b [1, 1]
noncomputable def K3 (k : Nat) : C := outD h c1 (K1 k)
noncomputable def K4 (k : Nat) : C := seqC E h k c1 (K1 k)
abbrev T0 := (Option N0) → (Option N0) → R
noncomputable def u0 (k : Nat) : T0 := fun (x0 x1 : Option N0) => runOf (S := cx) E h k Try.f125 [.val (.ptr 0), .val (.ptr 0)] (.ptr 0) .ro (x0, x1, ())
def t0 : T0 := fun (x0 x1 : Option N0) => 
  (bindR x0 fun z1 => (bindR x1 fun z2 => (bindR x0 fun z3 => (bindR x1 fun z4 => (bindR x0 fun z5 => (bindR x1 fun z6 => (bindR x0 fun z7 => (bindR x1 fun z8 => (some ((some (pk0 (((w64 ((out0 z1).1.1 + (out0 z2).1.1)), ((w64 ((out0 z3).1.2.1 + (out0 z4).1.2.1)), ((w64 ((out0 z5).1.2.2.1 + (out0 z6).1.2.2.1)), (w64 ((1 : Int) + (maxI (out0 z7).1.2.2.2 (out0 z8).1.2.2.2)))))), (([] : List UInt8), (x0, x1))))), ()))))))))))
theorem e0 (k : Nat) : u0 k = t0 := by kernel_rfl
def p0 (k : Nat) : T0 := t0
theorem o0 (k : Nat) : u0 k = p0 k := (Eq.trans (b := t0) (e0 k) (by kernel_rfl))
end rope_both
def s_rope_both (a : (Option N0) × ((Option N0) × (Unit))) : Option ((Option N0) × (Unit)) := rope_both.p0 (fuel) a.1 a.2.1
noncomputable def F_rope_both : FSpec cx.toNm := { ps := [.val (.ptr 0), .val (.ptr 0)], nres := 1, rt := (.ptr 0), rm := .ro, f := s_rope_both }
noncomputable def Fr_rope_of (f : ((List UInt8) × (Unit)) → Option ((Option N0) × (Unit))) : FSpec cx.toNm := { ps := [.val .str], nres := 1, rt := (.ptr 0), rm := .ro, f := f }
namespace rope_of
noncomputable def E (sf_rope_of : ((List UInt8) × (Unit)) → Option ((Option N0) × (Unit))) : Env cx := { tys := tys, fs := fsOf [(90, (Fr_rope_of sf_rope_of)), (124, F_rope_piece), (125, F_rope_both)] }
abbrev R := Option ((Option N0) × (Unit))
abbrev C := Exit → ST cx → R
noncomputable def b : Code := bodyC Try.f90
noncomputable def h : Hint := { vs := [0, 2, 3], nil := [], cuts := [], ret := ([2], []), ords := [(6, [0, 1, 2, 4, 5, 6, 3, 7, 8, 9])] }
noncomputable def K0 (sf_rope_of : ((List UInt8) × (Unit)) → Option ((Option N0) × (Unit))) : C := fin (S := cx) (E sf_rope_of) Try.f90.results.toList (.ptr 0) .ro [] []
noncomputable def c0 : Code := subC b [1]
noncomputable def K1 (sf_rope_of : ((List UInt8) × (Unit)) → Option ((Option N0) × (Unit))) (k : Nat) : C := outD h c0 (K0 sf_rope_of)
noncomputable def K2 (sf_rope_of : ((List UInt8) × (Unit)) → Option ((Option N0) × (Unit))) (k : Nat) : C := seqC (E sf_rope_of) h k c0 (K0 sf_rope_of)
noncomputable def c1 : Code := subC b [1, 1]
noncomputable def K3 (sf_rope_of : ((List UInt8) × (Unit)) → Option ((Option N0) × (Unit))) (k : Nat) : C := outD h c1 (K1 sf_rope_of k)
noncomputable def K4 (sf_rope_of : ((List UInt8) × (Unit)) → Option ((Option N0) × (Unit))) (k : Nat) : C := seqC (E sf_rope_of) h k c1 (K1 sf_rope_of k)
noncomputable def K5 (sf_rope_of : ((List UInt8) × (Unit)) → Option ((Option N0) × (Unit))) (k : Nat) : C := blockK 0 (K4 sf_rope_of k)
noncomputable def c2 : Code := subC b [1, 0, 0, 1]
noncomputable def K6 (sf_rope_of : ((List UInt8) × (Unit)) → Option ((Option N0) × (Unit))) (k : Nat) : C := outD h c2 (K5 sf_rope_of k)
noncomputable def K7 (sf_rope_of : ((List UInt8) × (Unit)) → Option ((Option N0) × (Unit))) (k : Nat) : C := seqC (E sf_rope_of) h k c2 (K5 sf_rope_of k)
noncomputable def c3 : Code := subC b [1, 0, 0, 1, 0, 1]
noncomputable def K8 (sf_rope_of : ((List UInt8) × (Unit)) → Option ((Option N0) × (Unit))) (k : Nat) : C := outD h c3 (K6 sf_rope_of k)
noncomputable def K9 (sf_rope_of : ((List UInt8) × (Unit)) → Option ((Option N0) × (Unit))) (k : Nat) : C := seqC (E sf_rope_of) h k c3 (K6 sf_rope_of k)
noncomputable def c4 : Code := subC b [1, 0, 0, 1, 1, 1]
noncomputable def K10 (sf_rope_of : ((List UInt8) × (Unit)) → Option ((Option N0) × (Unit))) (k : Nat) : C := outD h c4 (K6 sf_rope_of k)
noncomputable def K11 (sf_rope_of : ((List UInt8) × (Unit)) → Option ((Option N0) × (Unit))) (k : Nat) : C := seqC (E sf_rope_of) h k c4 (K6 sf_rope_of k)
noncomputable def c5 : Code := subC b [1, 0, 0, 1, 1, 1, 0, 1]
noncomputable def K12 (sf_rope_of : ((List UInt8) × (Unit)) → Option ((Option N0) × (Unit))) (k : Nat) : C := outD h c5 (K10 sf_rope_of k)
noncomputable def K13 (sf_rope_of : ((List UInt8) × (Unit)) → Option ((Option N0) × (Unit))) (k : Nat) : C := seqC (E sf_rope_of) h k c5 (K10 sf_rope_of k)
noncomputable def c6 : Code := subC b [1, 1, 1]
noncomputable def K14 (sf_rope_of : ((List UInt8) × (Unit)) → Option ((Option N0) × (Unit))) (k : Nat) : C := outD h c6 (K3 sf_rope_of k)
noncomputable def K15 (sf_rope_of : ((List UInt8) × (Unit)) → Option ((Option N0) × (Unit))) (k : Nat) : C := seqC (E sf_rope_of) h k c6 (K3 sf_rope_of k)
noncomputable def c7 : Code := subC b [1, 1, 1, 1]
noncomputable def K16 (sf_rope_of : ((List UInt8) × (Unit)) → Option ((Option N0) × (Unit))) (k : Nat) : C := outD h c7 (K14 sf_rope_of k)
noncomputable def K17 (sf_rope_of : ((List UInt8) × (Unit)) → Option ((Option N0) × (Unit))) (k : Nat) : C := seqC (E sf_rope_of) h k c7 (K14 sf_rope_of k)
abbrev T0 := (List UInt8) → R
noncomputable def u0 (sf_rope_of : ((List UInt8) × (Unit)) → Option ((Option N0) × (Unit))) (k : Nat) : T0 := fun (x0 : List UInt8) => runOf (S := cx) (E sf_rope_of) h k Try.f90 [.val .str] (.ptr 0) .ro (x0, ())
def t0 (sf_rope_of : ((List UInt8) × (Unit)) → Option ((Option N0) × (Unit))) : T0 := fun (x0 : List UInt8) => 
  (iteB (decide (x0 = ([] : List UInt8))) (some (none, ())) (iteB (decide (((List.length x0 : Nat) : Int) ≤ (64 : Int))) (bindR (s_rope_piece (x0, ())) fun r1 => (some (r1.1, ()))) (mustR (decide (0 ≤ (w64 (Int.tdiv ((List.length x0 : Nat) : Int) (2 : Int))))) (mustR (decide ((w64 (Int.tdiv ((List.length x0 : Nat) : Int) (2 : Int))) ≤ (((List.length x0) : Nat) : Int))) (mustR (decide (0 ≤ (w64 (Int.tdiv ((List.length x0 : Nat) : Int) (2 : Int))))) (mustR (decide ((w64 (Int.tdiv ((List.length x0 : Nat) : Int) (2 : Int))) ≤ (((List.length x0) : Nat) : Int))) (bindR (sf_rope_of ((List.drop 0 (List.take (Int.toNat (w64 (Int.tdiv ((List.length x0 : Nat) : Int) (2 : Int)))) x0)), ())) fun r2 => (bindR (sf_rope_of ((List.drop (Int.toNat (w64 (Int.tdiv ((List.length x0 : Nat) : Int) (2 : Int)))) (List.take (List.length x0) x0)), ())) fun r3 => (bindR (s_rope_both (r2.1, (r3.1, ()))) fun r4 => (some (r4.1, ())))))))))))
theorem e0 (sf_rope_of : ((List UInt8) × (Unit)) → Option ((Option N0) × (Unit))) (k : Nat) : u0 sf_rope_of k = t0 sf_rope_of := by kernel_rfl
def p0 (sf_rope_of : ((List UInt8) × (Unit)) → Option ((Option N0) × (Unit))) (k : Nat) : T0 := t0 sf_rope_of
theorem o0 (sf_rope_of : ((List UInt8) × (Unit)) → Option ((Option N0) × (Unit))) (k : Nat) : u0 sf_rope_of k = p0 sf_rope_of k := (Eq.trans (b := t0 sf_rope_of) (e0 sf_rope_of k) (by kernel_rfl))
end rope_of
def r_rope_of : Nat → ((List UInt8) × (Unit)) → Option ((Option N0) × (Unit))
  | 0, _ => none
  | n + 1, a => rope_of.p0 (r_rope_of n) (fuel) a.1
def s_rope_of (a : (List UInt8) × (Unit)) : Option ((Option N0) × (Unit)) := r_rope_of (fuel) a
noncomputable def F_rope_of : FSpec cx.toNm := Fr_rope_of s_rope_of
namespace rope_Of
noncomputable def E : Env cx := { tys := tys, fs := fsOf [(90, F_rope_of)] }
abbrev R := Option (((Option N0) × (Int)) × (Unit))
abbrev C := Exit → ST cx → R
noncomputable def b : Code := bodyC Try.f40
noncomputable def h : Hint := { vs := [0, 2, 3], nil := [], cuts := [], ret := ([2, 3], [2]), ords := [] }
noncomputable def K0 : C := fin (S := cx) E Try.f40.results.toList (.pair (.agg (.ptr 0)) (.int .i64)) .ro [] []
noncomputable def c0 : Code := subC b [1]
noncomputable def K1 (k : Nat) : C := outD h c0 K0
noncomputable def K2 (k : Nat) : C := seqC E h k c0 K0
noncomputable def c1 : Code := subC b [1, 1]
noncomputable def K3 (k : Nat) : C := outD h c1 (K1 k)
noncomputable def K4 (k : Nat) : C := seqC E h k c1 (K1 k)
noncomputable def c2 : Code := subC b [1, 0, 1]
noncomputable def K5 (k : Nat) : C := outD h c2 (K4 k)
noncomputable def K6 (k : Nat) : C := seqC E h k c2 (K4 k)
noncomputable def c3 : Code := subC b [1, 0, 1, 0, 1]
noncomputable def K7 (k : Nat) : C := outD h c3 (K5 k)
noncomputable def K8 (k : Nat) : C := seqC E h k c3 (K5 k)
noncomputable def c4 : Code := subC b [1, 1, 1]
noncomputable def K9 (k : Nat) : C := outD h c4 (K3 k)
noncomputable def K10 (k : Nat) : C := seqC E h k c4 (K3 k)
abbrev T0 := (List UInt8) → R
noncomputable def u0 (k : Nat) : T0 := fun (x0 : List UInt8) => runOf (S := cx) E h k Try.f40 [.val .str] (.pair (.agg (.ptr 0)) (.int .i64)) .ro (x0, ())
def t0 : T0 := fun (x0 : List UInt8) => 
  (iteB (decide ((4000 : Int) < ((List.length x0 : Nat) : Int))) (some ((none, (4 : Int)), ())) (bindR (s_rope_of (x0, ())) fun r1 => (some ((r1.1, (0 : Int)), ()))))
theorem e0 (k : Nat) : u0 k = t0 := by kernel_rfl
def p0 (k : Nat) : T0 := t0
theorem o0 (k : Nat) : u0 k = p0 k := (Eq.trans (b := t0) (e0 k) (by kernel_rfl))
end rope_Of
def s_rope_Of (a : (List UInt8) × (Unit)) : Option (((Option N0) × (Int)) × (Unit)) := rope_Of.p0 (fuel) a.1
noncomputable def F_rope_Of : FSpec cx.toNm := { ps := [.val .str], nres := 2, rt := (.pair (.agg (.ptr 0)) (.int .i64)), rm := .ro, f := s_rope_Of }
namespace rope_part_all
noncomputable def E : Env cx := { tys := tys, fs := fsOf [] }
abbrev R := Option (((Int) × ((Int) × ((Int) × (Int)))) × (Unit))
abbrev C := Exit → ST cx → R
noncomputable def b : Code := bodyC Try.f87
noncomputable def h : Hint := { vs := [0, 2], nil := [], cuts := [], ret := ([2], [2]), ords := [] }
noncomputable def K0 : C := fin (S := cx) E Try.f87.results.toList (.agg (.pair (.int .i64) (.pair (.int .i64) (.pair (.int .i64) (.int .i64))))) .ro [] []
noncomputable def c0 : Code := subC b [1]
noncomputable def K1 (k : Nat) : C := outD h c0 K0
noncomputable def K2 (k : Nat) : C := seqC E h k c0 K0
noncomputable def c1 : Code := subC b [1, 1]
noncomputable def K3 (k : Nat) : C := outD h c1 (K1 k)
noncomputable def K4 (k : Nat) : C := seqC E h k c1 (K1 k)
noncomputable def c2 : Code := subC b [1, 0, 1]
noncomputable def K5 (k : Nat) : C := outD h c2 (K4 k)
noncomputable def K6 (k : Nat) : C := seqC E h k c2 (K4 k)
noncomputable def c3 : Code := subC b [1, 0, 1, 0, 1]
noncomputable def K7 (k : Nat) : C := outD h c3 (K5 k)
noncomputable def K8 (k : Nat) : C := seqC E h k c3 (K5 k)
noncomputable def c4 : Code := subC b [1, 1, 1]
noncomputable def K9 (k : Nat) : C := outD h c4 (K3 k)
noncomputable def K10 (k : Nat) : C := seqC E h k c4 (K3 k)
abbrev T0 := (Option N0) → R
noncomputable def u0 (k : Nat) : T0 := fun (x0 : Option N0) => runOf (S := cx) E h k Try.f87 [.val (.ptr 0)] (.agg (.pair (.int .i64) (.pair (.int .i64) (.pair (.int .i64) (.int .i64))))) .ro (x0, ())
def t0 : T0 := fun (x0 : Option N0) => 
  (iteB (Option.isNone x0) (some (((0 : Int), ((0 : Int), ((0 : Int), (0 : Int)))), ())) (bindR x0 fun z1 => (some ((out0 z1).1, ()))))
theorem e0 (k : Nat) : u0 k = t0 := by kernel_rfl
def p0 (k : Nat) : T0 := t0
theorem o0 (k : Nat) : u0 k = p0 k := (Eq.trans (b := t0) (e0 k) (by kernel_rfl))
end rope_part_all
def s_rope_part_all (a : (Option N0) × (Unit)) : Option (((Int) × ((Int) × ((Int) × (Int)))) × (Unit)) := rope_part_all.p0 (fuel) a.1
noncomputable def F_rope_part_all : FSpec cx.toNm := { ps := [.val (.ptr 0)], nres := 1, rt := (.agg (.pair (.int .i64) (.pair (.int .i64) (.pair (.int .i64) (.int .i64))))), rm := .ro, f := s_rope_part_all }
namespace rope_Rope_Len
noncomputable def E : Env cx := { tys := tys, fs := fsOf [(87, F_rope_part_all)] }
abbrev R := Option ((Int) × (Unit))
abbrev C := Exit → ST cx → R
noncomputable def b : Code := bodyC Try.f45
noncomputable def h : Hint := { vs := [0, 1, 2], nil := [], cuts := [], ret := ([2], [1]), ords := [] }
noncomputable def K0 : C := fin (S := cx) E Try.f45.results.toList (.int .i64) .ro [] []
noncomputable def c0 : Code := subC b [1]
noncomputable def K1 (k : Nat) : C := outD h c0 K0
noncomputable def K2 (k : Nat) : C := seqC E h k c0 K0
noncomputable def c1 : Code := subC b [1, 1]
noncomputable def K3 (k : Nat) : C := outD h c1 (K1 k)
noncomputable def K4 (k : Nat) : C := seqC E h k c1 (K1 k)
abbrev T0 := (Option N0) → R
noncomputable def u0 (k : Nat) : T0 := fun (x0 : Option N0) => runOf (S := cx) E h k Try.f45 [.val (.agg (.ptr 0))] (.int .i64) .ro (x0, ())
def t0 : T0 := fun (x0 : Option N0) => 
  (bindR (s_rope_part_all (x0, ())) fun r1 => (some (r1.1.1, ())))
theorem e0 (k : Nat) : u0 k = t0 := by kernel_rfl
def p0 (k : Nat) : T0 := t0
theorem o0 (k : Nat) : u0 k = p0 k := (Eq.trans (b := t0) (e0 k) (by kernel_rfl))
end rope_Rope_Len
def s_rope_Rope_Len (a : (Option N0) × (Unit)) : Option ((Int) × (Unit)) := rope_Rope_Len.p0 (fuel) a.1
noncomputable def F_rope_Rope_Len : FSpec cx.toNm := { ps := [.val (.agg (.ptr 0))], nres := 1, rt := (.int .i64), rm := .ro, f := s_rope_Rope_Len }
namespace rope_even
noncomputable def E : Env cx := { tys := tys, fs := fsOf [(125, F_rope_both)] }
abbrev R := Option ((Option N0) × (Unit))
abbrev C := Exit → ST cx → R
noncomputable def b : Code := bodyC Try.f126
noncomputable def h : Hint := { vs := [0, 1, 4], nil := [], cuts := [], ret := ([4], []), ords := [(4, [0, 1, 2, 3, 4, 5, 6, 7, 8, 9, 10, 12, 13, 14, 15, 16, 17, 18, 19, 11, 20, 21, 22]), (7, [0, 1, 2, 3, 4, 6, 7, 8, 9, 5, 10, 11]), (8, [0, 1, 2, 3, 4, 5, 6, 7, 9, 10, 11, 12, 13, 14, 15, 16, 17, 18, 19, 8, 20, 21, 22])] }
noncomputable def K0 : C := fin (S := cx) E Try.f126.results.toList (.ptr 0) .ro [] []
noncomputable def c0 : Code := subC b [1]
noncomputable def K1 (k : Nat) : C := outD h c0 K0
noncomputable def K2 (k : Nat) : C := seqC E h k c0 K0
noncomputable def c1 : Code := subC b [1, 1]
noncomputable def K3 (k : Nat) : C := outD h c1 (K1 k)
noncomputable def K4 (k : Nat) : C := seqC E h k c1 (K1 k)
noncomputable def K5 (k : Nat) : C := blockK 0 (K4 k)
noncomputable def c2 : Code := subC b [1, 0, 0, 1]
noncomputable def K6 (k : Nat) : C := outD h c2 (K5 k)
noncomputable def K7 (k : Nat) : C := seqC E h k c2 (K5 k)
noncomputable def c3 : Code := subC b [1, 0, 0, 1, 0, 1]
noncomputable def K8 (k : Nat) : C := outD h c3 (K6 k)
noncomputable def K9 (k : Nat) : C := seqC E h k c3 (K6 k)
noncomputable def c4 : Code := subC b [1, 0, 0, 1, 0, 0, 1]
noncomputable def K10 (k : Nat) : C := outD h c4 (K9 k)
noncomputable def K11 (k : Nat) : C := seqC E h k c4 (K9 k)
noncomputable def c5 : Code := subC b [1, 0, 0, 1, 0, 0, 1, 0, 1]
noncomputable def K12 (k : Nat) : C := outD h c5 (K10 k)
noncomputable def K13 (k : Nat) : C := seqC E h k c5 (K10 k)
noncomputable def c6 : Code := subC b [1, 0, 0, 1, 0, 1, 1]
noncomputable def K14 (k : Nat) : C := outD h c6 (K8 k)
noncomputable def K15 (k : Nat) : C := seqC E h k c6 (K8 k)
noncomputable def c7 : Code := subC b [1, 0, 0, 1, 1, 1]
noncomputable def K16 (k : Nat) : C := outD h c7 (K6 k)
noncomputable def K17 (k : Nat) : C := seqC E h k c7 (K6 k)
noncomputable def c8 : Code := subC b [1, 0, 0, 1, 1, 1, 0, 1]
noncomputable def K18 (k : Nat) : C := outD h c8 (K16 k)
noncomputable def K19 (k : Nat) : C := seqC E h k c8 (K16 k)
noncomputable def c9 : Code := subC b [1, 0, 0, 1, 1, 1, 0, 0, 1]
noncomputable def K20 (k : Nat) : C := outD h c9 (K19 k)
noncomputable def K21 (k : Nat) : C := seqC E h k c9 (K19 k)
noncomputable def c10 : Code := subC b [1, 0, 0, 1, 1, 1, 0, 0, 1, 0, 1]
noncomputable def K22 (k : Nat) : C := outD h c10 (K20 k)
noncomputable def K23 (k : Nat) : C := seqC E h k c10 (K20 k)
noncomputable def c11 : Code := subC b [1, 0, 0, 1, 1, 1, 0, 1, 1]
noncomputable def K24 (k : Nat) : C := outD h c11 (K18 k)
noncomputable def K25 (k : Nat) : C := seqC E h k c11 (K18 k)
noncomputable def c12 : Code := subC b [1, 1, 1]
noncomputable def K26 (k : Nat) : C := outD h c12 (K3 k)
noncomputable def K27 (k : Nat) : C := seqC E h k c12 (K3 k)
abbrev T0 := (Option N0) → (Option N0) → R
noncomputable def u0 (k : Nat) : T0 := fun (x0 x1 : Option N0) => runOf (S := cx) E h k Try.f126 [.val (.ptr 0), .val (.ptr 0)] (.ptr 0) .ro (x0, x1, ())
def t0 : T0 := fun (x0 x1 : Option N0) => 
  (bindR x0 fun z1 => (bindR x1 fun z2 => (iteB (decide ((w64 ((out0 z2).1.2.2.2 + (1 : Int))) < (out0 z1).1.2.2.2)) (bindR x0 fun z3 => (bindR ((out0 z3).2.2.1) fun z4 => (bindR x0 fun z5 => (bindR ((out0 z5).2.2.2) fun z6 => (iteB (decide ((out0 z6).1.2.2.2 ≤ (out0 z4).1.2.2.2)) (bindR x0 fun z7 => (bindR x0 fun z8 => (bindR (s_rope_both ((out0 z8).2.2.2, (x1, ()))) fun r9 => (bindR (s_rope_both ((out0 z7).2.2.1, (r9.1, ()))) fun r10 => (some (r10.1, ())))))) (bindR x0 fun z11 => (bindR x0 fun z12 => (bindR ((out0 z12).2.2.2) fun z13 => (bindR x0 fun z14 => (bindR ((out0 z14).2.2.2) fun z15 => (bindR (s_rope_both ((out0 z11).2.2.1, ((out0 z13).2.2.1, ()))) fun r16 => (bindR (s_rope_both ((out0 z15).2.2.2, (x1, ()))) fun r17 => (bindR (s_rope_both (r16.1, (r17.1, ()))) fun r18 => (some (r18.1, ()))))))))))))))) (bindR x1 fun z19 => (bindR x0 fun z20 => (iteB (decide ((w64 ((out0 z20).1.2.2.2 + (1 : Int))) < (out0 z19).1.2.2.2)) (bindR x1 fun z21 => (bindR ((out0 z21).2.2.2) fun z22 => (bindR x1 fun z23 => (bindR ((out0 z23).2.2.1) fun z24 => (iteB (decide ((out0 z24).1.2.2.2 ≤ (out0 z22).1.2.2.2)) (bindR x1 fun z25 => (bindR x1 fun z26 => (bindR (s_rope_both (x0, ((out0 z25).2.2.1, ()))) fun r27 => (bindR (s_rope_both (r27.1, ((out0 z26).2.2.2, ()))) fun r28 => (some (r28.1, ())))))) (bindR x1 fun z29 => (bindR ((out0 z29).2.2.1) fun z30 => (bindR x1 fun z31 => (bindR ((out0 z31).2.2.1) fun z32 => (bindR x1 fun z33 => (bindR (s_rope_both (x0, ((out0 z30).2.2.1, ()))) fun r34 => (bindR (s_rope_both ((out0 z32).2.2.2, ((out0 z33).2.2.2, ()))) fun r35 => (bindR (s_rope_both (r34.1, (r35.1, ()))) fun r36 => (some (r36.1, ()))))))))))))))) (bindR (s_rope_both (x0, (x1, ()))) fun r37 => (some (r37.1, ())))))))))
theorem e0 (k : Nat) : u0 k = t0 := by kernel_rfl
def p0 (k : Nat) : T0 := t0
theorem o0 (k : Nat) : u0 k = p0 k := (Eq.trans (b := t0) (e0 k) (by kernel_rfl))
end rope_even
def s_rope_even (a : (Option N0) × ((Option N0) × (Unit))) : Option ((Option N0) × (Unit)) := rope_even.p0 (fuel) a.1 a.2.1
noncomputable def F_rope_even : FSpec cx.toNm := { ps := [.val (.ptr 0), .val (.ptr 0)], nres := 1, rt := (.ptr 0), rm := .ro, f := s_rope_even }
noncomputable def Fr_rope_join (f : ((Option N0) × ((Option N0) × (Unit))) → Option ((Option N0) × (Unit))) : FSpec cx.toNm := { ps := [.val (.ptr 0), .val (.ptr 0)], nres := 1, rt := (.ptr 0), rm := .ro, f := f }
namespace rope_join
noncomputable def E (sf_rope_join : ((Option N0) × ((Option N0) × (Unit))) → Option ((Option N0) × (Unit))) : Env cx := { tys := tys, fs := fsOf [(93, (Fr_rope_join sf_rope_join)), (124, F_rope_piece), (125, F_rope_both), (126, F_rope_even)] }
abbrev R := Option ((Option N0) × (Unit))
abbrev C := Exit → ST cx → R
noncomputable def b : Code := bodyC Try.f93
noncomputable def h : Hint := { vs := [0, 1, 4], nil := [], cuts := [(6, ([0, 1, 13], []), ([0, 1], [])), (11, ([0, 1], []), ([0, 1], []))], ret := ([4], []), ords := [(10, [0, 1, 2, 3, 4, 6, 7, 8, 9, 5, 10, 11])] }
noncomputable def K0 (sf_rope_join : ((Option N0) × ((Option N0) × (Unit))) → Option ((Option N0) × (Unit))) : C := fin (S := cx) (E sf_rope_join) Try.f93.results.toList (.ptr 0) .ro [] []
noncomputable def c0 : Code := subC b [1]
noncomputable def K1 (sf_rope_join : ((Option N0) × ((Option N0) × (Unit))) → Option ((Option N0) × (Unit))) (k : Nat) : C := outD h c0 (K0 sf_rope_join)
noncomputable def K2 (sf_rope_join : ((Option N0) × ((Option N0) × (Unit))) → Option ((Option N0) × (Unit))) (k : Nat) : C := seqC (E sf_rope_join) h k c0 (K0 sf_rope_join)
noncomputable def c1 : Code := subC b [1, 1]
noncomputable def K3 (sf_rope_join : ((Option N0) × ((Option N0) × (Unit))) → Option ((Option N0) × (Unit))) (k : Nat) : C := outD h c1 (K1 sf_rope_join k)
noncomputable def K4 (sf_rope_join : ((Option N0) × ((Option N0) × (Unit))) → Option ((Option N0) × (Unit))) (k : Nat) : C := seqC (E sf_rope_join) h k c1 (K1 sf_rope_join k)
noncomputable def K5 (sf_rope_join : ((Option N0) × ((Option N0) × (Unit))) → Option ((Option N0) × (Unit))) (k : Nat) : C := blockK 0 (K4 sf_rope_join k)
noncomputable def c2 : Code := subC b [1, 0, 0, 1]
noncomputable def K6 (sf_rope_join : ((Option N0) × ((Option N0) × (Unit))) → Option ((Option N0) × (Unit))) (k : Nat) : C := outD h c2 (K5 sf_rope_join k)
noncomputable def K7 (sf_rope_join : ((Option N0) × ((Option N0) × (Unit))) → Option ((Option N0) × (Unit))) (k : Nat) : C := seqC (E sf_rope_join) h k c2 (K5 sf_rope_join k)
noncomputable def c3 : Code := subC b [1, 0, 0, 1, 0, 1]
noncomputable def K8 (sf_rope_join : ((Option N0) × ((Option N0) × (Unit))) → Option ((Option N0) × (Unit))) (k : Nat) : C := outD h c3 (K6 sf_rope_join k)
noncomputable def K9 (sf_rope_join : ((Option N0) × ((Option N0) × (Unit))) → Option ((Option N0) × (Unit))) (k : Nat) : C := seqC (E sf_rope_join) h k c3 (K6 sf_rope_join k)
noncomputable def c4 : Code := subC b [1, 0, 0, 1, 1, 1]
noncomputable def K10 (sf_rope_join : ((Option N0) × ((Option N0) × (Unit))) → Option ((Option N0) × (Unit))) (k : Nat) : C := outD h c4 (K6 sf_rope_join k)
noncomputable def K11 (sf_rope_join : ((Option N0) × ((Option N0) × (Unit))) → Option ((Option N0) × (Unit))) (k : Nat) : C := seqC (E sf_rope_join) h k c4 (K6 sf_rope_join k)
noncomputable def c5 : Code := subC b [1, 0, 0, 1, 1, 1, 0, 1]
noncomputable def K12 (sf_rope_join : ((Option N0) × ((Option N0) × (Unit))) → Option ((Option N0) × (Unit))) (k : Nat) : C := outD h c5 (K10 sf_rope_join k)
noncomputable def K13 (sf_rope_join : ((Option N0) × ((Option N0) × (Unit))) → Option ((Option N0) × (Unit))) (k : Nat) : C := seqC (E sf_rope_join) h k c5 (K10 sf_rope_join k)
noncomputable def c6 : Code := subC b [1, 0, 0, 1, 1, 1, 1, 1]
noncomputable def K14 (sf_rope_join : ((Option N0) × ((Option N0) × (Unit))) → Option ((Option N0) × (Unit))) (k : Nat) : C := outD h c6 (K10 sf_rope_join k)
noncomputable def K15 (sf_rope_join : ((Option N0) × ((Option N0) × (Unit))) → Option ((Option N0) × (Unit))) (k : Nat) : C := seqC (E sf_rope_join) h k c6 (K10 sf_rope_join k)
noncomputable def c7 : Code := subC b [1, 0, 0, 1, 1, 1, 1, 1, 0, 1]
noncomputable def K16 (sf_rope_join : ((Option N0) × ((Option N0) × (Unit))) → Option ((Option N0) × (Unit))) (k : Nat) : C := outD h c7 (K14 sf_rope_join k)
noncomputable def K17 (sf_rope_join : ((Option N0) × ((Option N0) × (Unit))) → Option ((Option N0) × (Unit))) (k : Nat) : C := seqC (E sf_rope_join) h k c7 (K14 sf_rope_join k)
noncomputable def c8 : Code := subC b [1, 0, 0, 1, 1, 1, 1, 1, 1, 1]
noncomputable def K18 (sf_rope_join : ((Option N0) × ((Option N0) × (Unit))) → Option ((Option N0) × (Unit))) (k : Nat) : C := outD h c8 (K14 sf_rope_join k)
noncomputable def K19 (sf_rope_join : ((Option N0) × ((Option N0) × (Unit))) → Option ((Option N0) × (Unit))) (k : Nat) : C := seqC (E sf_rope_join) h k c8 (K14 sf_rope_join k)
noncomputable def c9 : Code := subC b [1, 0, 0, 1, 1, 1, 1, 1, 1, 1, 0, 1]
noncomputable def K20 (sf_rope_join : ((Option N0) × ((Option N0) × (Unit))) → Option ((Option N0) × (Unit))) (k : Nat) : C := outD h c9 (K18 sf_rope_join k)
noncomputable def K21 (sf_rope_join : ((Option N0) × ((Option N0) × (Unit))) → Option ((Option N0) × (Unit))) (k : Nat) : C := seqC (E sf_rope_join) h k c9 (K18 sf_rope_join k)
noncomputable def c10 : Code := subC b [1, 0, 0, 1, 1, 1, 1, 1, 1, 1, 1, 1]
noncomputable def K22 (sf_rope_join : ((Option N0) × ((Option N0) × (Unit))) → Option ((Option N0) × (Unit))) (k : Nat) : C := outD h c10 (K18 sf_rope_join k)
noncomputable def K23 (sf_rope_join : ((Option N0) × ((Option N0) × (Unit))) → Option ((Option N0) × (Unit))) (k : Nat) : C := seqC (E sf_rope_join) h k c10 (K18 sf_rope_join k)
noncomputable def c11 : Code := subC b [1, 0, 0, 1, 1, 1, 1, 1, 1, 1, 1, 1, 0, 1]
noncomputable def K24 (sf_rope_join : ((Option N0) × ((Option N0) × (Unit))) → Option ((Option N0) × (Unit))) (k : Nat) : C := outD h c11 (K22 sf_rope_join k)
noncomputable def K25 (sf_rope_join : ((Option N0) × ((Option N0) × (Unit))) → Option ((Option N0) × (Unit))) (k : Nat) : C := seqC (E sf_rope_join) h k c11 (K22 sf_rope_join k)
noncomputable def c12 : Code := subC b [1, 1, 1]
noncomputable def K26 (sf_rope_join : ((Option N0) × ((Option N0) × (Unit))) → Option ((Option N0) × (Unit))) (k : Nat) : C := outD h c12 (K3 sf_rope_join k)
noncomputable def K27 (sf_rope_join : ((Option N0) × ((Option N0) × (Unit))) → Option ((Option N0) × (Unit))) (k : Nat) : C := seqC (E sf_rope_join) h k c12 (K3 sf_rope_join k)
abbrev T2 := (Option N0) → (Option N0) → R
abbrev T1 := (Option N0) → (Option N0) → Bool → R
abbrev T0 := (Option N0) → (Option N0) → R
abbrev s2 : (Option N0) → (Option N0) → ST cx := fun (x0 x1 : Option N0) => ({ vars := [(0, .v (.ptr 0) .ro x0), (1, .v (.ptr 0) .ro x1)], scr := [], mems := [] } : ST cx)
noncomputable def u2 (sf_rope_join : ((Option N0) × ((Option N0) × (Unit))) → Option ((Option N0) × (Unit))) (k : Nat) : T2 := fun (x0 x1 : Option N0) => uK (run (E sf_rope_join) h k c1) (s2 x0 x1) (K3 sf_rope_join k)
noncomputable abbrev l2 (sf_rope_join : ((Option N0) × ((Option N0) × (Unit))) → Option ((Option N0) × (Unit))) (k : Nat) : T2 := fun (x0 x1 : Option N0) => cutK (run (E sf_rope_join) h k c1) (s2 x0 x1) (K3 sf_rope_join k)
abbrev s1 : (Option N0) → (Option N0) → Bool → ST cx := fun (x0 x1 : Option N0) (x13 : Bool) => ({ vars := [(0, .v (.ptr 0) .ro x0), (1, .v (.ptr 0) .ro x1), (13, .v .bool .ro x13)], scr := [], mems := [] } : ST cx)
noncomputable def u1 (sf_rope_join : ((Option N0) × ((Option N0) × (Unit))) → Option ((Option N0) × (Unit))) (k : Nat) : T1 := fun (x0 x1 : Option N0) (x13 : Bool) => uK (run (E sf_rope_join) h k c6) (s1 x0 x1 x13) (K14 sf_rope_join k)
noncomputable abbrev l1 (sf_rope_join : ((Option N0) × ((Option N0) × (Unit))) → Option ((Option N0) × (Unit))) (k : Nat) : T1 := fun (x0 x1 : Option N0) (x13 : Bool) => cutK (run (E sf_rope_join) h k c6) (s1 x0 x1 x13) (K14 sf_rope_join k)
noncomputable def u0 (sf_rope_join : ((Option N0) × ((Option N0) × (Unit))) → Option ((Option N0) × (Unit))) (k : Nat) : T0 := fun (x0 x1 : Option N0) => runOf (S := cx) (E sf_rope_join) h k Try.f93 [.val (.ptr 0), .val (.ptr 0)] (.ptr 0) .ro (x0, x1, ())
def t2 (sf_rope_join : ((Option N0) × ((Option N0) × (Unit))) → Option ((Option N0) × (Unit))) : T2 := fun (x0 x1 : Option N0) => 
  (bindR (s_rope_both (x0, (x1, ()))) fun r20 => (some (r20.1, ())))
theorem e2 (sf_rope_join : ((Option N0) × ((Option N0) × (Unit))) → Option ((Option N0) × (Unit))) (k : Nat) : u2 sf_rope_join k = t2 sf_rope_join := by kernel_rfl
theorem g2 (sf_rope_join : ((Option N0) × ((Option N0) × (Unit))) → Option ((Option N0) × (Unit))) (k : Nat) : l2 sf_rope_join k = u2 sf_rope_join k := funext fun _ => funext fun _ => cut_u _ _ _
def p2 (sf_rope_join : ((Option N0) × ((Option N0) × (Unit))) → Option ((Option N0) × (Unit))) (k : Nat) : T2 := t2 sf_rope_join
theorem o2 (sf_rope_join : ((Option N0) × ((Option N0) × (Unit))) → Option ((Option N0) × (Unit))) (k : Nat) : l2 sf_rope_join k = p2 sf_rope_join k := (Eq.trans (b := u2 sf_rope_join k) (g2 sf_rope_join k) (Eq.trans (b := t2 sf_rope_join) (e2 sf_rope_join k) (by kernel_rfl)))
def t1 (sf_rope_join : ((Option N0) × ((Option N0) × (Unit))) → Option ((Option N0) × (Unit))) (f2 : T2) : T1 := fun (x0 x1 : Option N0) (x13 : Bool) => 
  (iteB x13 (bindR x0 fun z5 => (bindR x1 fun z6 => (mustR (decide (List.length (out0 z5).2.1 + List.length (out0 z6).2.1 ≤ 140737488355328)) (bindR (s_rope_piece (((out0 z5).2.1 ++ (out0 z6).2.1), ())) fun r7 => (some (r7.1, ())))))) (bindR x0 fun z8 => (bindR x1 fun z9 => (iteB (decide ((w64 ((out0 z9).1.2.2.2 + (1 : Int))) < (out0 z8).1.2.2.2)) (bindR x0 fun z10 => (bindR x0 fun z11 => (bindR (sf_rope_join ((out0 z11).2.2.2, (x1, ()))) fun r12 => (bindR (s_rope_even ((out0 z10).2.2.1, (r12.1, ()))) fun r13 => (some (r13.1, ())))))) (bindR x1 fun z14 => (bindR x0 fun z15 => (iteB (decide ((w64 ((out0 z15).1.2.2.2 + (1 : Int))) < (out0 z14).1.2.2.2)) (bindR x1 fun z16 => (bindR x1 fun z17 => (bindR (sf_rope_join (x0, ((out0 z16).2.2.1, ()))) fun r18 => (bindR (s_rope_even (r18.1, ((out0 z17).2.2.2, ()))) fun r19 => (some (r19.1, ())))))) (f2 x0 x1))))))))
theorem e1 (sf_rope_join : ((Option N0) × ((Option N0) × (Unit))) → Option ((Option N0) × (Unit))) (k : Nat) : u1 sf_rope_join k = t1 sf_rope_join (l2 sf_rope_join k) := by kernel_rfl
theorem g1 (sf_rope_join : ((Option N0) × ((Option N0) × (Unit))) → Option ((Option N0) × (Unit))) (k : Nat) : l1 sf_rope_join k = u1 sf_rope_join k := funext fun _ => funext fun _ => funext fun _ => cut_u _ _ _
theorem d1 (sf_rope_join : ((Option N0) × ((Option N0) × (Unit))) → Option ((Option N0) × (Unit))) {x2 y2 : T2} (h2 : x2 = y2) : t1 sf_rope_join x2 = t1 sf_rope_join y2 := by subst h2; rfl
def p1 (sf_rope_join : ((Option N0) × ((Option N0) × (Unit))) → Option ((Option N0) × (Unit))) (k : Nat) : T1 := t1 sf_rope_join (p2 sf_rope_join k)
theorem o1 (sf_rope_join : ((Option N0) × ((Option N0) × (Unit))) → Option ((Option N0) × (Unit))) (k : Nat) : l1 sf_rope_join k = p1 sf_rope_join k := (Eq.trans (b := u1 sf_rope_join k) (g1 sf_rope_join k) (Eq.trans (b := t1 sf_rope_join (l2 sf_rope_join k)) (e1 sf_rope_join k) (Eq.trans (b := t1 sf_rope_join (p2 sf_rope_join k)) (d1 sf_rope_join (o2 sf_rope_join k)) (by kernel_rfl))))
def t0 (sf_rope_join : ((Option N0) × ((Option N0) × (Unit))) → Option ((Option N0) × (Unit))) (f1 : T1) : T0 := fun (x0 x1 : Option N0) => 
  (iteB (Option.isNone x0) (some (x1, ())) (iteB (Option.isNone x1) (some (x0, ())) (bindR x0 fun z1 => (iteB (Option.isNone (out0 z1).2.2.1) (bindR x1 fun z2 => (iteB (Option.isNone (out0 z2).2.2.1) (bindR x0 fun z3 => (bindR x1 fun z4 => (f1 x0 x1 (decide ((w64 ((out0 z3).1.1 + (out0 z4).1.1)) ≤ (64 : Int)))))) (f1 x0 x1 false))) (f1 x0 x1 false)))))
theorem e0 (sf_rope_join : ((Option N0) × ((Option N0) × (Unit))) → Option ((Option N0) × (Unit))) (k : Nat) : u0 sf_rope_join k = t0 sf_rope_join (l1 sf_rope_join k) := by kernel_rfl
theorem d0 (sf_rope_join : ((Option N0) × ((Option N0) × (Unit))) → Option ((Option N0) × (Unit))) {x1 y1 : T1} (h1 : x1 = y1) : t0 sf_rope_join x1 = t0 sf_rope_join y1 := by subst h1; rfl
def p0 (sf_rope_join : ((Option N0) × ((Option N0) × (Unit))) → Option ((Option N0) × (Unit))) (k : Nat) : T0 := t0 sf_rope_join (p1 sf_rope_join k)
theorem o0 (sf_rope_join : ((Option N0) × ((Option N0) × (Unit))) → Option ((Option N0) × (Unit))) (k : Nat) : u0 sf_rope_join k = p0 sf_rope_join k := (Eq.trans (b := t0 sf_rope_join (l1 sf_rope_join k)) (e0 sf_rope_join k) (Eq.trans (b := t0 sf_rope_join (p1 sf_rope_join k)) (d0 sf_rope_join (o1 sf_rope_join k)) (by kernel_rfl)))
end rope_join
def r_rope_join : Nat → ((Option N0) × ((Option N0) × (Unit))) → Option ((Option N0) × (Unit))
  | 0, _ => none
  | n + 1, a => rope_join.p0 (r_rope_join n) (fuel) a.1 a.2.1
def s_rope_join (a : (Option N0) × ((Option N0) × (Unit))) : Option ((Option N0) × (Unit)) := r_rope_join (fuel) a
noncomputable def F_rope_join : FSpec cx.toNm := Fr_rope_join s_rope_join
noncomputable def Fr_rope_split (f : ((Option N0) × ((Int) × (Unit))) → Option (((Option N0) × (Option N0)) × (Unit))) : FSpec cx.toNm := { ps := [.val (.ptr 0), .val (.int .i64)], nres := 2, rt := (.pair (.ptr 0) (.ptr 0)), rm := .ro, f := f }
namespace rope_split
noncomputable def E (sf_rope_split : ((Option N0) × ((Int) × (Unit))) → Option (((Option N0) × (Option N0)) × (Unit))) : Env cx := { tys := tys, fs := fsOf [(92, (Fr_rope_split sf_rope_split)), (93, F_rope_join), (124, F_rope_piece)] }
abbrev R := Option (((Option N0) × (Option N0)) × (Unit))
abbrev C := Exit → ST cx → R
noncomputable def b : Code := bodyC Try.f92
noncomputable def h : Hint := { vs := [0, 1, 4, 5, 6, 7, 8, 9], nil := [], cuts := [(2, ([0, 1, 10], []), ([0, 1], [])), (10, ([0, 1], []), ([0, 1], []))], ret := ([4, 5], []), ords := [(6, [0, 1, 2, 3, 4, 5, 7, 8, 9, 10, 11, 12, 6, 13, 14, 15])] }
noncomputable def K0 (sf_rope_split : ((Option N0) × ((Int) × (Unit))) → Option (((Option N0) × (Option N0)) × (Unit))) : C := fin (S := cx) (E sf_rope_split) Try.f92.results.toList (.pair (.ptr 0) (.ptr 0)) .ro [] []
noncomputable def c0 : Code := subC b [1]
noncomputable def K1 (sf_rope_split : ((Option N0) × ((Int) × (Unit))) → Option (((Option N0) × (Option N0)) × (Unit))) (k : Nat) : C := outD h c0 (K0 sf_rope_split)
noncomputable def K2 (sf_rope_split : ((Option N0) × ((Int) × (Unit))) → Option (((Option N0) × (Option N0)) × (Unit))) (k : Nat) : C := seqC (E sf_rope_split) h k c0 (K0 sf_rope_split)
noncomputable def c1 : Code := subC b [1, 1]
noncomputable def K3 (sf_rope_split : ((Option N0) × ((Int) × (Unit))) → Option (((Option N0) × (Option N0)) × (Unit))) (k : Nat) : C := outD h c1 (K1 sf_rope_split k)
noncomputable def K4 (sf_rope_split : ((Option N0) × ((Int) × (Unit))) → Option (((Option N0) × (Option N0)) × (Unit))) (k : Nat) : C := seqC (E sf_rope_split) h k c1 (K1 sf_rope_split k)
noncomputable def K5 (sf_rope_split : ((Option N0) × ((Int) × (Unit))) → Option (((Option N0) × (Option N0)) × (Unit))) (k : Nat) : C := blockK 0 (K4 sf_rope_split k)
noncomputable def c2 : Code := subC b [1, 0, 0, 1]
noncomputable def K6 (sf_rope_split : ((Option N0) × ((Int) × (Unit))) → Option (((Option N0) × (Option N0)) × (Unit))) (k : Nat) : C := outD h c2 (K5 sf_rope_split k)
noncomputable def K7 (sf_rope_split : ((Option N0) × ((Int) × (Unit))) → Option (((Option N0) × (Option N0)) × (Unit))) (k : Nat) : C := seqC (E sf_rope_split) h k c2 (K5 sf_rope_split k)
noncomputable def c3 : Code := subC b [1, 0, 0, 1, 0, 1]
noncomputable def K8 (sf_rope_split : ((Option N0) × ((Int) × (Unit))) → Option (((Option N0) × (Option N0)) × (Unit))) (k : Nat) : C := outD h c3 (K6 sf_rope_split k)
noncomputable def K9 (sf_rope_split : ((Option N0) × ((Int) × (Unit))) → Option (((Option N0) × (Option N0)) × (Unit))) (k : Nat) : C := seqC (E sf_rope_split) h k c3 (K6 sf_rope_split k)
noncomputable def c4 : Code := subC b [1, 0, 0, 1, 1, 1]
noncomputable def K10 (sf_rope_split : ((Option N0) × ((Int) × (Unit))) → Option (((Option N0) × (Option N0)) × (Unit))) (k : Nat) : C := outD h c4 (K6 sf_rope_split k)
noncomputable def K11 (sf_rope_split : ((Option N0) × ((Int) × (Unit))) → Option (((Option N0) × (Option N0)) × (Unit))) (k : Nat) : C := seqC (E sf_rope_split) h k c4 (K6 sf_rope_split k)
noncomputable def c5 : Code := subC b [1, 0, 0, 1, 1, 1, 0, 1]
noncomputable def K12 (sf_rope_split : ((Option N0) × ((Int) × (Unit))) → Option (((Option N0) × (Option N0)) × (Unit))) (k : Nat) : C := outD h c5 (K10 sf_rope_split k)
noncomputable def K13 (sf_rope_split : ((Option N0) × ((Int) × (Unit))) → Option (((Option N0) × (Option N0)) × (Unit))) (k : Nat) : C := seqC (E sf_rope_split) h k c5 (K10 sf_rope_split k)
noncomputable def c6 : Code := subC b [1, 0, 0, 1, 1, 1, 1, 1]
noncomputable def K14 (sf_rope_split : ((Option N0) × ((Int) × (Unit))) → Option (((Option N0) × (Option N0)) × (Unit))) (k : Nat) : C := outD h c6 (K10 sf_rope_split k)
noncomputable def K15 (sf_rope_split : ((Option N0) × ((Int) × (Unit))) → Option (((Option N0) × (Option N0)) × (Unit))) (k : Nat) : C := seqC (E sf_rope_split) h k c6 (K10 sf_rope_split k)
noncomputable def c7 : Code := subC b [1, 0, 0, 1, 1, 1, 1, 1, 0, 1]
noncomputable def K16 (sf_rope_split : ((Option N0) × ((Int) × (Unit))) → Option (((Option N0) × (Option N0)) × (Unit))) (k : Nat) : C := outD h c7 (K14 sf_rope_split k)
noncomputable def K17 (sf_rope_split : ((Option N0) × ((Int) × (Unit))) → Option (((Option N0) × (Option N0)) × (Unit))) (k : Nat) : C := seqC (E sf_rope_split) h k c7 (K14 sf_rope_split k)
noncomputable def c8 : Code := subC b [1, 0, 0, 1, 1, 1, 1, 1, 1, 1]
noncomputable def K18 (sf_rope_split : ((Option N0) × ((Int) × (Unit))) → Option (((Option N0) × (Option N0)) × (Unit))) (k : Nat) : C := outD h c8 (K14 sf_rope_split k)
noncomputable def K19 (sf_rope_split : ((Option N0) × ((Int) × (Unit))) → Option (((Option N0) × (Option N0)) × (Unit))) (k : Nat) : C := seqC (E sf_rope_split) h k c8 (K14 sf_rope_split k)
noncomputable def c9 : Code := subC b [1, 0, 0, 1, 1, 1, 1, 1, 1, 1, 0, 1]
noncomputable def K20 (sf_rope_split : ((Option N0) × ((Int) × (Unit))) → Option (((Option N0) × (Option N0)) × (Unit))) (k : Nat) : C := outD h c9 (K18 sf_rope_split k)
noncomputable def K21 (sf_rope_split : ((Option N0) × ((Int) × (Unit))) → Option (((Option N0) × (Option N0)) × (Unit))) (k : Nat) : C := seqC (E sf_rope_split) h k c9 (K18 sf_rope_split k)
noncomputable def c10 : Code := subC b [1, 0, 0, 1, 1, 1, 1, 1, 1, 1, 0, 1, 1]
noncomputable def K22 (sf_rope_split : ((Option N0) × ((Int) × (Unit))) → Option (((Option N0) × (Option N0)) × (Unit))) (k : Nat) : C := outD h c10 (K20 sf_rope_split k)
noncomputable def K23 (sf_rope_split : ((Option N0) × ((Int) × (Unit))) → Option (((Option N0) × (Option N0)) × (Unit))) (k : Nat) : C := seqC (E sf_rope_split) h k c10 (K20 sf_rope_split k)
noncomputable def c11 : Code := subC b [1, 1, 1]
noncomputable def K24 (sf_rope_split : ((Option N0) × ((Int) × (Unit))) → Option (((Option N0) × (Option N0)) × (Unit))) (k : Nat) : C := outD h c11 (K3 sf_rope_split k)
noncomputable def K25 (sf_rope_split : ((Option N0) × ((Int) × (Unit))) → Option (((Option N0) × (Option N0)) × (Unit))) (k : Nat) : C := seqC (E sf_rope_split) h k c11 (K3 sf_rope_split k)
noncomputable def c12 : Code := subC b [1, 1, 1, 1]
noncomputable def K26 (sf_rope_split : ((Option N0) × ((Int) × (Unit))) → Option (((Option N0) × (Option N0)) × (Unit))) (k : Nat) : C := outD h c12 (K24 sf_rope_split k)
noncomputable def K27 (sf_rope_split : ((Option N0) × ((Int) × (Unit))) → Option (((Option N0) × (Option N0)) × (Unit))) (k : Nat) : C := seqC (E sf_rope_split) h k c12 (K24 sf_rope_split k)
abbrev T2 := (Option N0) → Int → R
abbrev T1 := (Option N0) → Int → Bool → R
abbrev T0 := (Option N0) → Int → R
abbrev s2 : (Option N0) → Int → ST cx := fun (x0 : Option N0) (x1 : Int) => ({ vars := [(0, .v (.ptr 0) .ro x0), (1, .v (.int .i64) .ro x1)], scr := [], mems := [] } : ST cx)
noncomputable def u2 (sf_rope_split : ((Option N0) × ((Int) × (Unit))) → Option (((Option N0) × (Option N0)) × (Unit))) (k : Nat) : T2 := fun (x0 : Option N0) (x1 : Int) => uK (run (E sf_rope_split) h k c1) (s2 x0 x1) (K3 sf_rope_split k)
noncomputable abbrev l2 (sf_rope_split : ((Option N0) × ((Int) × (Unit))) → Option (((Option N0) × (Option N0)) × (Unit))) (k : Nat) : T2 := fun (x0 : Option N0) (x1 : Int) => cutK (run (E sf_rope_split) h k c1) (s2 x0 x1) (K3 sf_rope_split k)
abbrev s1 : (Option N0) → Int → Bool → ST cx := fun (x0 : Option N0) (x1 : Int) (x10 : Bool) => ({ vars := [(0, .v (.ptr 0) .ro x0), (1, .v (.int .i64) .ro x1), (10, .v .bool .ro x10)], scr := [], mems := [] } : ST cx)
noncomputable def u1 (sf_rope_split : ((Option N0) × ((Int) × (Unit))) → Option (((Option N0) × (Option N0)) × (Unit))) (k : Nat) : T1 := fun (x0 : Option N0) (x1 : Int) (x10 : Bool) => uK (run (E sf_rope_split) h k c2) (s1 x0 x1 x10) (K6 sf_rope_split k)
noncomputable abbrev l1 (sf_rope_split : ((Option N0) × ((Int) × (Unit))) → Option (((Option N0) × (Option N0)) × (Unit))) (k : Nat) : T1 := fun (x0 : Option N0) (x1 : Int) (x10 : Bool) => cutK (run (E sf_rope_split) h k c2) (s1 x0 x1 x10) (K6 sf_rope_split k)
noncomputable def u0 (sf_rope_split : ((Option N0) × ((Int) × (Unit))) → Option (((Option N0) × (Option N0)) × (Unit))) (k : Nat) : T0 := fun (x0 : Option N0) (x1 : Int) => runOf (S := cx) (E sf_rope_split) h k Try.f92 [.val (.ptr 0), .val (.int .i64)] (.pair (.ptr 0) (.ptr 0)) .ro (x0, x1, ())
def t2 (sf_rope_split : ((Option N0) × ((Int) × (Unit))) → Option (((Option N0) × (Option N0)) × (Unit))) : T2 := fun (x0 : Option N0) (x1 : Int) => 
  (bindR x0 fun z13 => (bindR x0 fun z14 => (bindR ((out0 z14).2.2.1) fun z15 => (bindR (sf_rope_split ((out0 z13).2.2.2, ((w64 (x1 - (out0 z15).1.1)), ()))) fun r16 => (bindR x0 fun z17 => (bindR (s_rope_join ((out0 z17).2.2.1, (r16.1.1, ()))) fun r18 => (some ((r18.1, r16.1.2), ()))))))))
theorem e2 (sf_rope_split : ((Option N0) × ((Int) × (Unit))) → Option (((Option N0) × (Option N0)) × (Unit))) (k : Nat) : u2 sf_rope_split k = t2 sf_rope_split := by kernel_rfl
theorem g2 (sf_rope_split : ((Option N0) × ((Int) × (Unit))) → Option (((Option N0) × (Option N0)) × (Unit))) (k : Nat) : l2 sf_rope_split k = u2 sf_rope_split k := funext fun _ => funext fun _ => cut_u _ _ _
def p2 (sf_rope_split : ((Option N0) × ((Int) × (Unit))) → Option (((Option N0) × (Option N0)) × (Unit))) (k : Nat) : T2 := t2 sf_rope_split
theorem o2 (sf_rope_split : ((Option N0) × ((Int) × (Unit))) → Option (((Option N0) × (Option N0)) × (Unit))) (k : Nat) : l2 sf_rope_split k = p2 sf_rope_split k := (Eq.trans (b := u2 sf_rope_split k) (g2 sf_rope_split k) (Eq.trans (b := t2 sf_rope_split) (e2 sf_rope_split k) (by kernel_rfl)))
def t1 (sf_rope_split : ((Option N0) × ((Int) × (Unit))) → Option (((Option N0) × (Option N0)) × (Unit))) (f2 : T2) : T1 := fun (x0 : Option N0) (x1 : Int) (x10 : Bool) => 
  (iteB x10 (some ((none, x0), ())) (bindR x0 fun z1 => (iteB (decide (x1 = (out0 z1).1.1)) (some ((x0, none), ())) (bindR x0 fun z2 => (iteB (Option.isNone (out0 z2).2.2.1) (bindR x0 fun z3 => (mustR (decide (0 ≤ x1)) (mustR (decide (x1 ≤ (((List.length (out0 z3).2.1) : Nat) : Int))) (bindR x0 fun z4 => (mustR (decide (0 ≤ x1)) (mustR (decide (x1 ≤ (((List.length (out0 z4).2.1) : Nat) : Int))) (bindR (s_rope_piece ((List.drop 0 (List.take (Int.toNat x1) (out0 z3).2.1)), ())) fun r5 => (bindR (s_rope_piece ((List.drop (Int.toNat x1) (List.take (List.length (out0 z4).2.1) (out0 z4).2.1)), ())) fun r6 => (some ((r5.1, r6.1), ())))))))))) (bindR x0 fun z7 => (bindR ((out0 z7).2.2.1) fun z8 => (iteB (decide (x1 ≤ (out0 z8).1.1)) (bindR x0 fun z9 => (bindR (sf_rope_split ((out0 z9).2.2.1, (x1, ()))) fun r10 => (bindR x0 fun z11 => (bindR (s_rope_join (r10.1.2, ((out0 z11).2.2.2, ()))) fun r12 => (some ((r10.1.1, r12.1), ())))))) (f2 x0 x1)))))))))
theorem e1 (sf_rope_split : ((Option N0) × ((Int) × (Unit))) → Option (((Option N0) × (Option N0)) × (Unit))) (k : Nat) : u1 sf_rope_split k = t1 sf_rope_split (l2 sf_rope_split k) := by kernel_rfl
theorem g1 (sf_rope_split : ((Option N0) × ((Int) × (Unit))) → Option (((Option N0) × (Option N0)) × (Unit))) (k : Nat) : l1 sf_rope_split k = u1 sf_rope_split k := funext fun _ => funext fun _ => funext fun _ => cut_u _ _ _
theorem d1 (sf_rope_split : ((Option N0) × ((Int) × (Unit))) → Option (((Option N0) × (Option N0)) × (Unit))) {x2 y2 : T2} (h2 : x2 = y2) : t1 sf_rope_split x2 = t1 sf_rope_split y2 := by subst h2; rfl
def p1 (sf_rope_split : ((Option N0) × ((Int) × (Unit))) → Option (((Option N0) × (Option N0)) × (Unit))) (k : Nat) : T1 := t1 sf_rope_split (p2 sf_rope_split k)
theorem o1 (sf_rope_split : ((Option N0) × ((Int) × (Unit))) → Option (((Option N0) × (Option N0)) × (Unit))) (k : Nat) : l1 sf_rope_split k = p1 sf_rope_split k := (Eq.trans (b := u1 sf_rope_split k) (g1 sf_rope_split k) (Eq.trans (b := t1 sf_rope_split (l2 sf_rope_split k)) (e1 sf_rope_split k) (Eq.trans (b := t1 sf_rope_split (p2 sf_rope_split k)) (d1 sf_rope_split (o2 sf_rope_split k)) (by kernel_rfl))))
def t0 (sf_rope_split : ((Option N0) × ((Int) × (Unit))) → Option (((Option N0) × (Option N0)) × (Unit))) (f1 : T1) : T0 := fun (x0 : Option N0) (x1 : Int) => 
  (iteB (Option.isNone x0) (f1 x0 x1 true) (f1 x0 x1 (decide (x1 = (0 : Int)))))
theorem e0 (sf_rope_split : ((Option N0) × ((Int) × (Unit))) → Option (((Option N0) × (Option N0)) × (Unit))) (k : Nat) : u0 sf_rope_split k = t0 sf_rope_split (l1 sf_rope_split k) := by kernel_rfl
theorem d0 (sf_rope_split : ((Option N0) × ((Int) × (Unit))) → Option (((Option N0) × (Option N0)) × (Unit))) {x1 y1 : T1} (h1 : x1 = y1) : t0 sf_rope_split x1 = t0 sf_rope_split y1 := by subst h1; rfl
def p0 (sf_rope_split : ((Option N0) × ((Int) × (Unit))) → Option (((Option N0) × (Option N0)) × (Unit))) (k : Nat) : T0 := t0 sf_rope_split (p1 sf_rope_split k)
theorem o0 (sf_rope_split : ((Option N0) × ((Int) × (Unit))) → Option (((Option N0) × (Option N0)) × (Unit))) (k : Nat) : u0 sf_rope_split k = p0 sf_rope_split k := (Eq.trans (b := t0 sf_rope_split (l1 sf_rope_split k)) (e0 sf_rope_split k) (Eq.trans (b := t0 sf_rope_split (p1 sf_rope_split k)) (d0 sf_rope_split (o1 sf_rope_split k)) (by kernel_rfl)))
end rope_split
def r_rope_split : Nat → ((Option N0) × ((Int) × (Unit))) → Option (((Option N0) × (Option N0)) × (Unit))
  | 0, _ => none
  | n + 1, a => rope_split.p0 (r_rope_split n) (fuel) a.1 a.2.1
def s_rope_split (a : (Option N0) × ((Int) × (Unit))) : Option (((Option N0) × (Option N0)) × (Unit)) := r_rope_split (fuel) a
noncomputable def F_rope_split : FSpec cx.toNm := Fr_rope_split s_rope_split
namespace rope_Rope_Split
noncomputable def E : Env cx := { tys := tys, fs := fsOf [(45, F_rope_Rope_Len), (92, F_rope_split)] }
abbrev R := Option (((Option N0) × ((Option N0) × (Int))) × (Unit))
abbrev C := Exit → ST cx → R
noncomputable def b : Code := bodyC Try.f43
noncomputable def h : Hint := { vs := [0, 1, 2, 4, 5, 6, 7, 8], nil := [], cuts := [(2, ([1, 2, 4, 5, 16], [2, 4, 5]), ([1, 2, 4, 5], [2, 4, 5])), (3, ([1, 2, 4, 5], [2, 4, 5]), ([1, 2, 4, 5], [2, 4, 5]))], ret := ([4, 5, 6], [2, 4, 5]), ords := [] }
noncomputable def K0 : C := fin (S := cx) E Try.f43.results.toList (.pair (.agg (.ptr 0)) (.pair (.agg (.ptr 0)) (.int .i64))) .ro [] []
noncomputable def c0 : Code := subC b [1]
noncomputable def K1 (k : Nat) : C := outD h c0 K0
noncomputable def K2 (k : Nat) : C := seqC E h k c0 K0
noncomputable def c1 : Code := subC b [1, 1]
noncomputable def K3 (k : Nat) : C := outD h c1 (K1 k)
noncomputable def K4 (k : Nat) : C := seqC E h k c1 (K1 k)
noncomputable def c2 : Code := subC b [1, 0, 1]
noncomputable def K5 (k : Nat) : C := outD h c2 (K4 k)
noncomputable def K6 (k : Nat) : C := seqC E h k c2 (K4 k)
noncomputable def c3 : Code := subC b [1, 0, 1, 0, 1]
noncomputable def K7 (k : Nat) : C := outD h c3 (K5 k)
noncomputable def K8 (k : Nat) : C := seqC E h k c3 (K5 k)
noncomputable def c4 : Code := subC b [1, 1, 1]
noncomputable def K9 (k : Nat) : C := outD h c4 (K3 k)
noncomputable def K10 (k : Nat) : C := seqC E h k c4 (K3 k)
noncomputable def c5 : Code := subC b [1, 1, 1, 1]
noncomputable def K11 (k : Nat) : C := outD h c5 (K9 k)
noncomputable def K12 (k : Nat) : C := seqC E h k c5 (K9 k)
abbrev T2 := Int → (Option N0) → (Option N0) → (Option N0) → R
abbrev T1 := Int → Bool → (Option N0) → (Option N0) → (Option N0) → R
abbrev T0 := (Option N0) → Int → R
abbrev s2 : Int → (Option N0) → (Option N0) → (Option N0) → ST cx := fun (x1 : Int) (m2 m4 m5 : Option N0) => ({ vars := [(1, .v (.int .i64) .ro x1), (2, .addr (.mem 2) []), (4, .addr (.mem 4) []), (5, .addr (.mem 5) [])], scr := [], mems := [(2, ⟨(.agg (.ptr 0)), .ro, m2⟩), (4, ⟨(.agg (.ptr 0)), .ro, m4⟩), (5, ⟨(.agg (.ptr 0)), .ro, m5⟩)] } : ST cx)
noncomputable def u2 (k : Nat) : T2 := fun (x1 : Int) (m2 m4 m5 : Option N0) => uK (run E h k c1) (s2 x1 m2 m4 m5) (K3 k)
noncomputable abbrev l2 (k : Nat) : T2 := fun (x1 : Int) (m2 m4 m5 : Option N0) => cutK (run E h k c1) (s2 x1 m2 m4 m5) (K3 k)
abbrev s1 : Int → Bool → (Option N0) → (Option N0) → (Option N0) → ST cx := fun (x1 : Int) (x16 : Bool) (m2 m4 m5 : Option N0) => ({ vars := [(1, .v (.int .i64) .ro x1), (2, .addr (.mem 2) []), (4, .addr (.mem 4) []), (5, .addr (.mem 5) []), (16, .v .bool .ro x16)], scr := [], mems := [(2, ⟨(.agg (.ptr 0)), .ro, m2⟩), (4, ⟨(.agg (.ptr 0)), .ro, m4⟩), (5, ⟨(.agg (.ptr 0)), .ro, m5⟩)] } : ST cx)
noncomputable def u1 (k : Nat) : T1 := fun (x1 : Int) (x16 : Bool) (m2 m4 m5 : Option N0) => uK (run E h k c2) (s1 x1 x16 m2 m4 m5) (K5 k)
noncomputable abbrev l1 (k : Nat) : T1 := fun (x1 : Int) (x16 : Bool) (m2 m4 m5 : Option N0) => cutK (run E h k c2) (s1 x1 x16 m2 m4 m5) (K5 k)
noncomputable def u0 (k : Nat) : T0 := fun (x0 : Option N0) (x1 : Int) => runOf (S := cx) E h k Try.f43 [.val (.agg (.ptr 0)), .val (.int .i64)] (.pair (.agg (.ptr 0)) (.pair (.agg (.ptr 0)) (.int .i64))) .ro (x0, x1, ())
def t2 : T2 := fun (x1 : Int) (m2 m4 m5 : Option N0) => 
  (bindR (s_rope_split (m2, (x1, ()))) fun r2 => (some ((r2.1.1, (r2.1.2, (0 : Int))), ())))
theorem e2 (k : Nat) : u2 k = t2 := by kernel_rfl
theorem g2 (k : Nat) : l2 k = u2 k := funext fun _ => funext fun _ => funext fun _ => funext fun _ => cut_u _ _ _
def p2 (k : Nat) : T2 := t2
theorem o2 (k : Nat) : l2 k = p2 k := (Eq.trans (b := u2 k) (g2 k) (Eq.trans (b := t2) (e2 k) (by kernel_rfl)))
def t1 (f2 : T2) : T1 := fun (x1 : Int) (x16 : Bool) (m2 m4 m5 : Option N0) => 
  (iteB x16 (some ((none, (none, (3 : Int))), ())) (f2 x1 m2 m4 m5))
theorem e1 (k : Nat) : u1 k = t1 (l2 k) := by kernel_rfl
theorem g1 (k : Nat) : l1 k = u1 k := funext fun _ => funext fun _ => funext fun _ => funext fun _ => funext fun _ => cut_u _ _ _
theorem d1 {x2 y2 : T2} (h2 : x2 = y2) : t1 x2 = t1 y2 := by subst h2; rfl
def p1 (k : Nat) : T1 := t1 (p2 k)
theorem o1 (k : Nat) : l1 k = p1 k := (Eq.trans (b := u1 k) (g1 k) (Eq.trans (b := t1 (l2 k)) (e1 k) (Eq.trans (b := t1 (p2 k)) (d1 (o2 k)) (by kernel_rfl))))
def t0 (f1 : T1) : T0 := fun (x0 : Option N0) (x1 : Int) => 
  (iteB (decide (x1 < (0 : Int))) (f1 x1 true x0 none none) (bindR (s_rope_Rope_Len (x0, ())) fun r1 => (f1 x1 (decide (r1.1 < x1)) x0 none none)))
theorem e0 (k : Nat) : u0 k = t0 (l1 k) := by kernel_rfl
theorem d0 {x1 y1 : T1} (h1 : x1 = y1) : t0 x1 = t0 y1 := by subst h1; rfl
def p0 (k : Nat) : T0 := t0 (p1 k)
theorem o0 (k : Nat) : u0 k = p0 k := (Eq.trans (b := t0 (l1 k)) (e0 k) (Eq.trans (b := t0 (p1 k)) (d0 (o1 k)) (by kernel_rfl)))
end rope_Rope_Split
def s_rope_Rope_Split (a : (Option N0) × ((Int) × (Unit))) : Option (((Option N0) × ((Option N0) × (Int))) × (Unit)) := rope_Rope_Split.p0 (fuel) a.1 a.2.1
noncomputable def F_rope_Rope_Split : FSpec cx.toNm := { ps := [.val (.agg (.ptr 0)), .val (.int .i64)], nres := 3, rt := (.pair (.agg (.ptr 0)) (.pair (.agg (.ptr 0)) (.int .i64))), rm := .ro, f := s_rope_Rope_Split }
namespace rope_Join
noncomputable def E : Env cx := { tys := tys, fs := fsOf [(45, F_rope_Rope_Len), (87, F_rope_part_all), (93, F_rope_join)] }
abbrev R := Option (((Option N0) × (Int)) × (Unit))
abbrev C := Exit → ST cx → R
noncomputable def b : Code := bodyC Try.f44
noncomputable def h : Hint := { vs := [0, 2, 3, 4, 6, 7, 8, 9], nil := [], cuts := [(3, ([2, 4, 7, 8, 9], [2]), ([2, 4], [2])), (9, ([2, 4], [2]), ([2, 4], [2]))], ret := ([2, 3], [2, 6]), ords := [(5, [0, 3, 1, 2, 4, 5, 6])] }
noncomputable def K0 : C := fin (S := cx) E Try.f44.results.toList (.pair (.agg (.ptr 0)) (.int .i64)) .ro [] []
noncomputable def c0 : Code := subC b [1]
noncomputable def K1 (k : Nat) : C := outD h c0 K0
noncomputable def K2 (k : Nat) : C := seqC E h k c0 K0
noncomputable def c1 : Code := subC b [1, 1]
noncomputable def K3 (k : Nat) : C := outD h c1 (K1 k)
noncomputable def K4 (k : Nat) : C := seqC E h k c1 (K1 k)
noncomputable def c2 : Code := subC b [1, 1, 1]
noncomputable def K5 (k : Nat) : C := outD h c2 (K3 k)
noncomputable def K6 (k : Nat) : C := seqC E h k c2 (K3 k)
noncomputable def c3 : Code := subC b [1, 1, 0, 1]
noncomputable def K7 (k : Nat) : C := outD h c3 (K6 k)
noncomputable def K8 (k : Nat) : C := seqC E h k c3 (K6 k)
noncomputable def K9 (k : Nat) : C := blockK 0 (K7 k)
noncomputable def c4 : Code := subC b [1, 1, 0, 1, 0, 0]
noncomputable def K10 (k n1 : Nat) : C := loopD E h k c4 (K9 k) n1
noncomputable def c5 : Code := subC b [1, 1, 0, 1, 0, 0, 1]
noncomputable def K11 (k n1 : Nat) : C := outD h c5 (K10 k n1)
noncomputable def K12 (k n1 : Nat) : C := seqC E h k c5 (K10 k n1)
noncomputable def c6 : Code := subC b [1, 1, 0, 1, 0, 0, 1, 1]
noncomputable def K13 (k n1 : Nat) : C := outD h c6 (K11 k n1)
noncomputable def K14 (k n1 : Nat) : C := seqC E h k c6 (K11 k n1)
noncomputable def c7 : Code := subC b [1, 1, 0, 1, 0, 0, 1, 1, 1]
noncomputable def K15 (k n1 : Nat) : C := outD h c7 (K13 k n1)
noncomputable def K16 (k n1 : Nat) : C := seqC E h k c7 (K13 k n1)
noncomputable def K17 (k n1 : Nat) : C := blockK 1 (K16 k n1)
noncomputable def c8 : Code := subC b [1, 1, 0, 1, 0, 0, 1, 1, 0, 0, 1]
noncomputable def K18 (k n1 : Nat) : C := outD h c8 (K17 k n1)
noncomputable def K19 (k n1 : Nat) : C := seqC E h k c8 (K17 k n1)
noncomputable def c9 : Code := subC b [1, 1, 0, 1, 0, 0, 1, 1, 0, 0, 1, 1]
noncomputable def K20 (k n1 : Nat) : C := outD h c9 (K18 k n1)
noncomputable def K21 (k n1 : Nat) : C := seqC E h k c9 (K18 k n1)
noncomputable def c10 : Code := subC b [1, 1, 0, 1, 0, 0, 1, 1, 0, 0, 1, 0, 1]
noncomputable def K22 (k n1 : Nat) : C := outD h c10 (K21 k n1)
noncomputable def K23 (k n1 : Nat) : C := seqC E h k c10 (K21 k n1)
noncomputable def c11 : Code := subC b [1, 1, 0, 1, 0, 0, 1, 1, 0, 0, 1, 0, 1, 0, 1]
noncomputable def K24 (k n1 : Nat) : C := outD h c11 (K22 k n1)
noncomputable def K25 (k n1 : Nat) : C := seqC E h k c11 (K22 k n1)
noncomputable def c12 : Code := subC b [1, 1, 1, 1]
noncomputable def K26 (k : Nat) : C := outD h c12 (K5 k)
noncomputable def K27 (k : Nat) : C := seqC E h k c12 (K5 k)
abbrev T2 := (Option N0) → (Option N0) → R
abbrev T1 := (Option N0) → (List (Option N0)) → Int → Int → (Option N0) → R
abbrev T0 := (List (Option N0)) → R
abbrev s2 : (Option N0) → (Option N0) → ST cx := fun (x4 m2 : Option N0) => ({ vars := [(2, .addr (.mem 2) []), (4, .v (.ptr 0) .ro x4)], scr := [], mems := [(2, ⟨(.agg (.ptr 0)), .ro, m2⟩)] } : ST cx)
noncomputable def u2 (k : Nat) : T2 := fun (x4 m2 : Option N0) => uK (run E h k c2) (s2 x4 m2) (K5 k)
noncomputable abbrev l2 (k : Nat) : T2 := fun (x4 m2 : Option N0) => cutK (run E h k c2) (s2 x4 m2) (K5 k)
abbrev s1 : (Option N0) → (List (Option N0)) → Int → Int → (Option N0) → ST cx := fun (x4 : Option N0) (x7 : List (Option N0)) (x8 x9 : Int) (m2 : Option N0) => ({ vars := [(2, .addr (.mem 2) []), (4, .v (.ptr 0) .ro x4), (7, .v (.slice 58 (.agg (.ptr 0))) .ro x7), (8, .v (.int .i64) .ro x8), (9, .v (.int .i64) .ro x9)], scr := [], mems := [(2, ⟨(.agg (.ptr 0)), .ro, m2⟩)] } : ST cx)
noncomputable def u1 (k n1 : Nat) : T1 := fun (x4 : Option N0) (x7 : List (Option N0)) (x8 x9 : Int) (m2 : Option N0) => uK (loopL E h k c4 (K9 k) n1) (s1 x4 x7 x8 x9 m2) ()
noncomputable abbrev l1 (k n1 : Nat) : T1 := fun (x4 : Option N0) (x7 : List (Option N0)) (x8 x9 : Int) (m2 : Option N0) => cutK (loopL E h k c4 (K9 k) n1) (s1 x4 x7 x8 x9 m2) ()
noncomputable def u0 (k : Nat) : T0 := fun (x0 : List (Option N0)) => runOf (S := cx) E h k Try.f44 [.val (.slice 58 (.agg (.ptr 0)))] (.pair (.agg (.ptr 0)) (.int .i64)) .ro (x0, ())
def t2 : T2 := fun (x4 m2 : Option N0) => 
  (some ((x4, (0 : Int)), ()))
theorem e2 (k : Nat) : u2 k = t2 := by kernel_rfl
theorem g2 (k : Nat) : l2 k = u2 k := funext fun _ => funext fun _ => cut_u _ _ _
def p2 (k : Nat) : T2 := t2
theorem o2 (k : Nat) : l2 k = p2 k := (Eq.trans (b := u2 k) (g2 k) (Eq.trans (b := t2) (e2 k) (by kernel_rfl)))
def t1 (f1 : T1) (f2 : T2) : T1 := fun (x4 : Option N0) (x7 : List (Option N0)) (x8 x9 : Int) (m2 : Option N0) => 
  (iteB (decide (x9 < x8)) (withinR x9 (List.length x7) fun q1 => (bindR (s_rope_part_all (x4, ())) fun r2 => (bindR (s_rope_Rope_Len ((List.getD x7 q1 none), ())) fun r3 => (iteB (decide ((4000 : Int) < (w64 (r2.1.1 + r3.1)))) (some ((none, (4 : Int)), ())) (bindR (s_rope_join (x4, ((List.getD x7 q1 none), ()))) fun r4 => (f1 r4.1 x7 x8 (w64 (x9 + (1 : Int))) m2)))))) (f2 x4 m2))
theorem e1 (k n1 : Nat) : u1 k (n1 + 1) = t1 (l1 k n1) (l2 k) := by kernel_rfl
theorem g1 (k n1 : Nat) : l1 k (n1 + 1) = u1 k (n1 + 1) := funext fun _ => funext fun _ => funext fun _ => funext fun _ => funext fun _ => cut_u _ _ _
theorem d1 {x1 y1 : T1} {x2 y2 : T2} (h1 : x1 = y1) (h2 : x2 = y2) : t1 x1 x2 = t1 y1 y2 := by subst h1; subst h2; rfl
def p1 (k : Nat) : Nat → T1
  | 0 => fun _ _ _ _ _ => none
  | n1 + 1 => t1 (p1 k n1) (p2 k)
theorem o1 (k : Nat) : ∀ n1, l1 k n1 = p1 k n1 := by
  intro n1
  induction n1 with
  | zero => kernel_rfl
  | succ n1 ih => exact (Eq.trans (b := u1 k (n1 + 1)) (g1 k n1) (Eq.trans (b := t1 (l1 k n1) (l2 k)) (e1 k n1) (Eq.trans (b := t1 (p1 k n1) (p2 k)) (d1 ih (o2 k)) (by kernel_rfl))))
def t0 (f1 : T1) : T0 := fun (x0 : List (Option N0)) => 
  (f1 none x0 ((List.length x0 : Nat) : Int) (0 : Int) none)
theorem e0 (k : Nat) : u0 k = t0 (l1 k k) := by kernel_rfl
theorem d0 {x1 y1 : T1} (h1 : x1 = y1) : t0 x1 = t0 y1 := by subst h1; rfl
def p0 (k : Nat) : T0 := t0 (p1 k k)
theorem o0 (k : Nat) : u0 k = p0 k := (Eq.trans (b := t0 (l1 k k)) (e0 k) (Eq.trans (b := t0 (p1 k k)) (d0 (o1 k k)) (by kernel_rfl)))
end rope_Join
def s_rope_Join (a : (List (Option N0)) × (Unit)) : Option (((Option N0) × (Int)) × (Unit)) := rope_Join.p0 (fuel) a.1
noncomputable def F_rope_Join : FSpec cx.toNm := { ps := [.val (.slice 58 (.agg (.ptr 0)))], nres := 2, rt := (.pair (.agg (.ptr 0)) (.int .i64)), rm := .ro, f := s_rope_Join }
namespace rope_Rope_Put
noncomputable def E : Env cx := { tys := tys, fs := fsOf [(40, F_rope_Of), (43, F_rope_Rope_Split), (44, F_rope_Join)] }
abbrev R := Option (((Option N0) × (Int)) × (Unit))
abbrev C := Exit → ST cx → R
noncomputable def b : Code := bodyC Try.f36
noncomputable def h : Hint := { vs := [0, 1, 2, 3, 6, 7, 8, 9, 10, 11], nil := [], cuts := [], ret := ([6, 7], [3, 6, 8, 9, 11]), ords := [] }
noncomputable def K0 : C := fin (S := cx) E Try.f36.results.toList (.pair (.agg (.ptr 0)) (.int .i64)) .ro [] []
noncomputable def c0 : Code := subC b [1]
noncomputable def K1 (k : Nat) : C := outD h c0 K0
noncomputable def K2 (k : Nat) : C := seqC E h k c0 K0
noncomputable def c1 : Code := subC b [1, 1]
noncomputable def K3 (k : Nat) : C := outD h c1 (K1 k)
noncomputable def K4 (k : Nat) : C := seqC E h k c1 (K1 k)
noncomputable def c2 : Code := subC b [1, 1, 1]
noncomputable def K5 (k : Nat) : C := outD h c2 (K3 k)
noncomputable def K6 (k : Nat) : C := seqC E h k c2 (K3 k)
noncomputable def c3 : Code := subC b [1, 1, 0, 1]
noncomputable def K7 (k : Nat) : C := outD h c3 (K6 k)
noncomputable def K8 (k : Nat) : C := seqC E h k c3 (K6 k)
noncomputable def c4 : Code := subC b [1, 1, 0, 1, 0, 1]
noncomputable def K9 (k : Nat) : C := outD h c4 (K7 k)
noncomputable def K10 (k : Nat) : C := seqC E h k c4 (K7 k)
noncomputable def c5 : Code := subC b [1, 1, 1, 1]
noncomputable def K11 (k : Nat) : C := outD h c5 (K5 k)
noncomputable def K12 (k : Nat) : C := seqC E h k c5 (K5 k)
noncomputable def c6 : Code := subC b [1, 1, 1, 1, 1]
noncomputable def K13 (k : Nat) : C := outD h c6 (K11 k)
noncomputable def K14 (k : Nat) : C := seqC E h k c6 (K11 k)
noncomputable def c7 : Code := subC b [1, 1, 1, 1, 0, 1]
noncomputable def K15 (k : Nat) : C := outD h c7 (K14 k)
noncomputable def K16 (k : Nat) : C := seqC E h k c7 (K14 k)
noncomputable def c8 : Code := subC b [1, 1, 1, 1, 0, 1, 0, 1]
noncomputable def K17 (k : Nat) : C := outD h c8 (K15 k)
noncomputable def K18 (k : Nat) : C := seqC E h k c8 (K15 k)
noncomputable def c9 : Code := subC b [1, 1, 1, 1, 1, 1]
noncomputable def K19 (k : Nat) : C := outD h c9 (K13 k)
noncomputable def K20 (k : Nat) : C := seqC E h k c9 (K13 k)
abbrev T0 := (Option N0) → Int → (List UInt8) → R
noncomputable def u0 (k : Nat) : T0 := fun (x0 : Option N0) (x1 : Int) (x2 : List UInt8) => runOf (S := cx) E h k Try.f36 [.val (.agg (.ptr 0)), .val (.int .i64), .val .str] (.pair (.agg (.ptr 0)) (.int .i64)) .ro (x0, x1, x2, ())
def t0 : T0 := fun (x0 : Option N0) (x1 : Int) (x2 : List UInt8) => 
  (bindR (s_rope_Rope_Split (x0, (x1, ()))) fun r1 => (iteB (!decide (r1.1.2.2 = (0 : Int))) (some ((none, r1.1.2.2), ())) (bindR (s_rope_Of (x2, ())) fun r2 => (iteB (!decide (r2.1.2 = (0 : Int))) (some ((none, r2.1.2), ())) (bindR (s_rope_Join (([r1.1.1, r2.1.1, r1.1.2.1] : List (Option N0)), ())) fun r3 => (some ((r3.1.1, r3.1.2), ())))))))
theorem e0 (k : Nat) : u0 k = t0 := by kernel_rfl
def p0 (k : Nat) : T0 := t0
theorem o0 (k : Nat) : u0 k = p0 k := (Eq.trans (b := t0) (e0 k) (by kernel_rfl))
end rope_Rope_Put
def s_rope_Rope_Put (a : (Option N0) × ((Int) × ((List UInt8) × (Unit)))) : Option (((Option N0) × (Int)) × (Unit)) := rope_Rope_Put.p0 (fuel) a.1 a.2.1 a.2.2.1
noncomputable def F_rope_Rope_Put : FSpec cx.toNm := { ps := [.val (.agg (.ptr 0)), .val (.int .i64), .val .str], nres := 2, rt := (.pair (.agg (.ptr 0)) (.int .i64)), rm := .ro, f := s_rope_Rope_Put }
namespace rope_Rope_cut
noncomputable def E : Env cx := { tys := tys, fs := fsOf [(43, F_rope_Rope_Split), (45, F_rope_Rope_Len)] }
abbrev R := Option (((Option N0) × ((Option N0) × ((Option N0) × (Int)))) × (Unit))
abbrev C := Exit → ST cx → R
noncomputable def b : Code := bodyC Try.f91
noncomputable def h : Hint := { vs := [0, 1, 2, 3, 6, 7, 8, 9, 10], nil := [], cuts := [(2, ([1, 2, 3, 6, 7, 8, 24], [3, 6, 7, 8]), ([1, 2, 3, 6, 7, 8], [3, 6, 7, 8])), (3, ([1, 2, 3, 6, 7, 8], [3, 6, 7, 8]), ([1, 2, 3, 6, 7, 8], [3, 6, 7, 8]))], ret := ([6, 7, 8, 9], [3, 6, 7, 8, 10]), ords := [(5, [0, 1, 2, 3, 4, 5, 6])], seps := [(5, [(7, 6), (8, 6), (8, 7)])] }
noncomputable def K0 : C := fin (S := cx) E Try.f91.results.toList (.pair (.agg (.ptr 0)) (.pair (.agg (.ptr 0)) (.pair (.agg (.ptr 0)) (.int .i64)))) .ro [] []
noncomputable def c0 : Code := subC b [1]
noncomputable def K1 (k : Nat) : C := outD h c0 K0
noncomputable def K2 (k : Nat) : C := seqC E h k c0 K0
noncomputable def c1 : Code := subC b [1, 1]
noncomputable def K3 (k : Nat) : C := outD h c1 (K1 k)
noncomputable def K4 (k : Nat) : C := seqC E h k c1 (K1 k)
noncomputable def c2 : Code := subC b [1, 0, 1]
noncomputable def K5 (k : Nat) : C := outD h c2 (K4 k)
noncomputable def K6 (k : Nat) : C := seqC E h k c2 (K4 k)
noncomputable def c3 : Code := subC b [1, 0, 1, 0, 1]
noncomputable def K7 (k : Nat) : C := outD h c3 (K5 k)
noncomputable def K8 (k : Nat) : C := seqC E h k c3 (K5 k)
noncomputable def c4 : Code := subC b [1, 1, 1]
noncomputable def K9 (k : Nat) : C := outD h c4 (K3 k)
noncomputable def K10 (k : Nat) : C := seqC E h k c4 (K3 k)
noncomputable def c5 : Code := subC b [1, 1, 1, 1]
noncomputable def K11 (k : Nat) : C := outD h c5 (K9 k)
noncomputable def K12 (k : Nat) : C := seqC E h k c5 (K9 k)
noncomputable def c6 : Code := subC b [1, 1, 1, 1, 1]
noncomputable def K13 (k : Nat) : C := outD h c6 (K11 k)
noncomputable def K14 (k : Nat) : C := seqC E h k c6 (K11 k)
abbrev T2 := Int → Int → (Option N0) → (Option N0) → (Option N0) → (Option N0) → R
abbrev T1 := Int → Int → Bool → (Option N0) → (Option N0) → (Option N0) → (Option N0) → R
abbrev T0 := (Option N0) → Int → Int → R
abbrev s2 : Int → Int → (Option N0) → (Option N0) → (Option N0) → (Option N0) → ST cx := fun (x1 x2 : Int) (m3 m6 m7 m8 : Option N0) => ({ vars := [(1, .v (.int .i64) .ro x1), (2, .v (.int .i64) .ro x2), (3, .addr (.mem 3) []), (6, .addr (.mem 6) []), (7, .addr (.mem 7) []), (8, .addr (.mem 8) [])], scr := [], mems := [(3, ⟨(.agg (.ptr 0)), .ro, m3⟩), (6, ⟨(.agg (.ptr 0)), .ro, m6⟩), (7, ⟨(.agg (.ptr 0)), .ro, m7⟩), (8, ⟨(.agg (.ptr 0)), .ro, m8⟩)] } : ST cx)
noncomputable def u2 (k : Nat) : T2 := fun (x1 x2 : Int) (m3 m6 m7 m8 : Option N0) => uK (run E h k c1) (s2 x1 x2 m3 m6 m7 m8) (K3 k)
noncomputable abbrev l2 (k : Nat) : T2 := fun (x1 x2 : Int) (m3 m6 m7 m8 : Option N0) => cutK (run E h k c1) (s2 x1 x2 m3 m6 m7 m8) (K3 k)
abbrev s1 : Int → Int → Bool → (Option N0) → (Option N0) → (Option N0) → (Option N0) → ST cx := fun (x1 x2 : Int) (x24 : Bool) (m3 m6 m7 m8 : Option N0) => ({ vars := [(1, .v (.int .i64) .ro x1), (2, .v (.int .i64) .ro x2), (3, .addr (.mem 3) []), (6, .addr (.mem 6) []), (7, .addr (.mem 7) []), (8, .addr (.mem 8) []), (24, .v .bool .ro x24)], scr := [], mems := [(3, ⟨(.agg (.ptr 0)), .ro, m3⟩), (6, ⟨(.agg (.ptr 0)), .ro, m6⟩), (7, ⟨(.agg (.ptr 0)), .ro, m7⟩), (8, ⟨(.agg (.ptr 0)), .ro, m8⟩)] } : ST cx)
noncomputable def u1 (k : Nat) : T1 := fun (x1 x2 : Int) (x24 : Bool) (m3 m6 m7 m8 : Option N0) => uK (run E h k c2) (s1 x1 x2 x24 m3 m6 m7 m8) (K5 k)
noncomputable abbrev l1 (k : Nat) : T1 := fun (x1 x2 : Int) (x24 : Bool) (m3 m6 m7 m8 : Option N0) => cutK (run E h k c2) (s1 x1 x2 x24 m3 m6 m7 m8) (K5 k)
noncomputable def u0 (k : Nat) : T0 := fun (x0 : Option N0) (x1 x2 : Int) => runOf (S := cx) E h k Try.f91 [.val (.agg (.ptr 0)), .val (.int .i64), .val (.int .i64)] (.pair (.agg (.ptr 0)) (.pair (.agg (.ptr 0)) (.pair (.agg (.ptr 0)) (.int .i64)))) .ro (x0, x1, x2, ())
def t2 : T2 := fun (x1 x2 : Int) (m3 m6 m7 m8 : Option N0) => 
  (bindR (s_rope_Rope_Split (m3, (x2, ()))) fun r2 => (bindR (s_rope_Rope_Split (r2.1.1, (x1, ()))) fun r3 => (some ((r3.1.1, (r3.1.2.1, (r2.1.2.1, (0 : Int)))), ()))))
theorem e2 (k : Nat) : u2 k = t2 := by kernel_rfl
theorem g2 (k : Nat) : l2 k = u2 k := funext fun _ => funext fun _ => funext fun _ => funext fun _ => funext fun _ => funext fun _ => cut_u _ _ _
def p2 (k : Nat) : T2 := t2
theorem o2 (k : Nat) : l2 k = p2 k := (Eq.trans (b := u2 k) (g2 k) (Eq.trans (b := t2) (e2 k) (by kernel_rfl)))
def t1 (f2 : T2) : T1 := fun (x1 x2 : Int) (x24 : Bool) (m3 m6 m7 m8 : Option N0) => 
  (iteB x24 (some ((none, (none, (none, (3 : Int)))), ())) (f2 x1 x2 m3 m6 m7 m8))
theorem e1 (k : Nat) : u1 k = t1 (l2 k) := by kernel_rfl
theorem g1 (k : Nat) : l1 k = u1 k := funext fun _ => funext fun _ => funext fun _ => funext fun _ => funext fun _ => funext fun _ => funext fun _ => cut_u _ _ _
theorem d1 {x2 y2 : T2} (h2 : x2 = y2) : t1 x2 = t1 y2 := by subst h2; rfl
def p1 (k : Nat) : T1 := t1 (p2 k)
theorem o1 (k : Nat) : l1 k = p1 k := (Eq.trans (b := u1 k) (g1 k) (Eq.trans (b := t1 (l2 k)) (e1 k) (Eq.trans (b := t1 (p2 k)) (d1 (o2 k)) (by kernel_rfl))))
def t0 (f1 : T1) : T0 := fun (x0 : Option N0) (x1 x2 : Int) => 
  (iteB (decide (x1 < (0 : Int))) (f1 x1 x2 true x0 none none none) (iteB (decide (x2 < x1)) (f1 x1 x2 true x0 none none none) (bindR (s_rope_Rope_Len (x0, ())) fun r1 => (f1 x1 x2 (decide (r1.1 < x2)) x0 none none none))))
theorem e0 (k : Nat) : u0 k = t0 (l1 k) := by kernel_rfl
theorem d0 {x1 y1 : T1} (h1 : x1 = y1) : t0 x1 = t0 y1 := by subst h1; rfl
def p0 (k : Nat) : T0 := t0 (p1 k)
theorem o0 (k : Nat) : u0 k = p0 k := (Eq.trans (b := t0 (l1 k)) (e0 k) (Eq.trans (b := t0 (p1 k)) (d0 (o1 k)) (by kernel_rfl)))
end rope_Rope_cut
def s_rope_Rope_cut (a : (Option N0) × ((Int) × ((Int) × (Unit)))) : Option (((Option N0) × ((Option N0) × ((Option N0) × (Int)))) × (Unit)) := rope_Rope_cut.p0 (fuel) a.1 a.2.1 a.2.2.1
noncomputable def F_rope_Rope_cut : FSpec cx.toNm := { ps := [.val (.agg (.ptr 0)), .val (.int .i64), .val (.int .i64)], nres := 4, rt := (.pair (.agg (.ptr 0)) (.pair (.agg (.ptr 0)) (.pair (.agg (.ptr 0)) (.int .i64)))), rm := .ro, f := s_rope_Rope_cut }
namespace rope_Rope_Take
noncomputable def E : Env cx := { tys := tys, fs := fsOf [(44, F_rope_Join), (91, F_rope_Rope_cut)] }
abbrev R := Option (((Option N0) × (Int)) × (Unit))
abbrev C := Exit → ST cx → R
noncomputable def b : Code := bodyC Try.f41
noncomputable def h : Hint := { vs := [0, 1, 2, 3, 6, 7, 8, 10, 11], nil := [], cuts := [], ret := ([6, 7], [3, 6, 8, 9, 10]), ords := [] }
noncomputable def K0 : C := fin (S := cx) E Try.f41.results.toList (.pair (.agg (.ptr 0)) (.int .i64)) .ro [] []
noncomputable def c0 : Code := subC b [1]
noncomputable def K1 (k : Nat) : C := outD h c0 K0
noncomputable def K2 (k : Nat) : C := seqC E h k c0 K0
noncomputable def c1 : Code := subC b [1, 1]
noncomputable def K3 (k : Nat) : C := outD h c1 (K1 k)
noncomputable def K4 (k : Nat) : C := seqC E h k c1 (K1 k)
noncomputable def c2 : Code := subC b [1, 1, 1]
noncomputable def K5 (k : Nat) : C := outD h c2 (K3 k)
noncomputable def K6 (k : Nat) : C := seqC E h k c2 (K3 k)
noncomputable def c3 : Code := subC b [1, 1, 0, 1]
noncomputable def K7 (k : Nat) : C := outD h c3 (K6 k)
noncomputable def K8 (k : Nat) : C := seqC E h k c3 (K6 k)
noncomputable def c4 : Code := subC b [1, 1, 0, 1, 0, 1]
noncomputable def K9 (k : Nat) : C := outD h c4 (K7 k)
noncomputable def K10 (k : Nat) : C := seqC E h k c4 (K7 k)
noncomputable def c5 : Code := subC b [1, 1, 1, 1]
noncomputable def K11 (k : Nat) : C := outD h c5 (K5 k)
noncomputable def K12 (k : Nat) : C := seqC E h k c5 (K5 k)
abbrev T0 := (Option N0) → Int → Int → R
noncomputable def u0 (k : Nat) : T0 := fun (x0 : Option N0) (x1 x2 : Int) => runOf (S := cx) E h k Try.f41 [.val (.agg (.ptr 0)), .val (.int .i64), .val (.int .i64)] (.pair (.agg (.ptr 0)) (.int .i64)) .ro (x0, x1, x2, ())
def t0 : T0 := fun (x0 : Option N0) (x1 x2 : Int) => 
  (bindR (s_rope_Rope_cut (x0, (x1, (x2, ())))) fun r1 => (iteB (!decide (r1.1.2.2.2 = (0 : Int))) (some ((none, r1.1.2.2.2), ())) (bindR (s_rope_Join (([r1.1.1, r1.1.2.2.1] : List (Option N0)), ())) fun r2 => (some ((r2.1.1, r2.1.2), ())))))
theorem e0 (k : Nat) : u0 k = t0 := by kernel_rfl
def p0 (k : Nat) : T0 := t0
theorem o0 (k : Nat) : u0 k = p0 k := (Eq.trans (b := t0) (e0 k) (by kernel_rfl))
end rope_Rope_Take
def s_rope_Rope_Take (a : (Option N0) × ((Int) × ((Int) × (Unit)))) : Option (((Option N0) × (Int)) × (Unit)) := rope_Rope_Take.p0 (fuel) a.1 a.2.1 a.2.2.1
noncomputable def F_rope_Rope_Take : FSpec cx.toNm := { ps := [.val (.agg (.ptr 0)), .val (.int .i64), .val (.int .i64)], nres := 2, rt := (.pair (.agg (.ptr 0)) (.int .i64)), rm := .ro, f := s_rope_Rope_Take }
namespace rope_Rope_Line
noncomputable def E : Env cx := { tys := tys, fs := fsOf [(87, F_rope_part_all)] }
abbrev R := Option (((Int) × (Bool)) × (Unit))
abbrev C := Exit → ST cx → R
noncomputable def b : Code := bodyC Try.f85
noncomputable def h : Hint := { vs := [0, 1, 2, 4, 5, 6, 7, 8, 9, 65, 66], nil := [], cuts := [(2, ([1, 2, 19], [2]), ([1, 2], [2])), (3, ([1, 2], [2]), ([1, 2], [2])), (6, ([1, 6, 7], []), ([1, 6, 7], [])), (12, ([1, 6, 7], []), ([1, 6, 7], [])), (13, ([1, 6, 7, 65, 66], []), ([], [])), (19, ([1, 6, 7, 65, 66], []), ([1, 6, 7, 65, 66], [])), (20, ([], []), ([], []))], ret := ([4, 5], [2]), ords := [] }
noncomputable def K0 : C := fin (S := cx) E Try.f85.results.toList (.pair (.int .i64) .bool) .ro [] []
noncomputable def c0 : Code := subC b [1]
noncomputable def K1 (k : Nat) : C := outD h c0 K0
noncomputable def K2 (k : Nat) : C := seqC E h k c0 K0
noncomputable def c1 : Code := subC b [1, 1]
noncomputable def K3 (k : Nat) : C := outD h c1 (K1 k)
noncomputable def K4 (k : Nat) : C := seqC E h k c1 (K1 k)
noncomputable def c2 : Code := subC b [1, 0, 1]
noncomputable def K5 (k : Nat) : C := outD h c2 (K4 k)
noncomputable def K6 (k : Nat) : C := seqC E h k c2 (K4 k)
noncomputable def c3 : Code := subC b [1, 0, 1, 0, 1]
noncomputable def K7 (k : Nat) : C := outD h c3 (K5 k)
noncomputable def K8 (k : Nat) : C := seqC E h k c3 (K5 k)
noncomputable def c4 : Code := subC b [1, 1, 1]
noncomputable def K9 (k : Nat) : C := outD h c4 (K3 k)
noncomputable def K10 (k : Nat) : C := seqC E h k c4 (K3 k)
noncomputable def c5 : Code := subC b [1, 1, 0, 1]
noncomputable def K11 (k : Nat) : C := outD h c5 (K10 k)
noncomputable def K12 (k : Nat) : C := seqC E h k c5 (K10 k)
noncomputable def c6 : Code := subC b [1, 1, 0, 1, 0, 1]
noncomputable def K13 (k : Nat) : C := outD h c6 (K11 k)
noncomputable def K14 (k : Nat) : C := seqC E h k c6 (K11 k)
noncomputable def c7 : Code := subC b [1, 1, 1, 1]
noncomputable def K15 (k : Nat) : C := outD h c7 (K9 k)
noncomputable def K16 (k : Nat) : C := seqC E h k c7 (K9 k)
noncomputable def c8 : Code := subC b [1, 1, 1, 1, 1]
noncomputable def K17 (k : Nat) : C := outD h c8 (K15 k)
noncomputable def K18 (k : Nat) : C := seqC E h k c8 (K15 k)
noncomputable def K19 (k : Nat) : C := blockK 0 (K18 k)
noncomputable def c9 : Code := subC b [1, 1, 1, 1, 0, 0, 0]
noncomputable def K20 (k n3 : Nat) : C := loopD E h k c9 (K19 k) n3
noncomputable def c10 : Code := subC b [1, 1, 1, 1, 0, 0, 0, 1]
noncomputable def K21 (k n3 : Nat) : C := outD h c10 (K20 k n3)
noncomputable def K22 (k n3 : Nat) : C := seqC E h k c10 (K20 k n3)
noncomputable def c11 : Code := subC b [1, 1, 1, 1, 0, 0, 0, 0, 1]
noncomputable def K23 (k n3 : Nat) : C := outD h c11 (K22 k n3)
noncomputable def K24 (k n3 : Nat) : C := seqC E h k c11 (K22 k n3)
noncomputable def K25 (k n3 : Nat) : C := blockK 1 (K21 k n3)
noncomputable def c12 : Code := subC b [1, 1, 1, 1, 0, 0, 0, 1, 0, 1]
noncomputable def K26 (k n3 : Nat) : C := outD h c12 (K25 k n3)
noncomputable def K27 (k n3 : Nat) : C := seqC E h k c12 (K25 k n3)
noncomputable def c13 : Code := subC b [1, 1, 1, 1, 0, 0, 0, 1, 0, 1, 1]
noncomputable def K28 (k n3 : Nat) : C := outD h c13 (K26 k n3)
noncomputable def K29 (k n3 : Nat) : C := seqC E h k c13 (K26 k n3)
noncomputable def c14 : Code := subC b [1, 1, 1, 1, 0, 0, 0, 1, 0, 1, 1, 1, 1]
noncomputable def K30 (k n3 : Nat) : C := outD h c14 (K28 k n3)
noncomputable def K31 (k n3 : Nat) : C := seqC E h k c14 (K28 k n3)
noncomputable def c15 : Code := subC b [1, 1, 1, 1, 1, 1]
noncomputable def K32 (k : Nat) : C := outD h c15 (K17 k)
noncomputable def K33 (k : Nat) : C := seqC E h k c15 (K17 k)
noncomputable def c16 : Code := subC b [1, 1, 1, 1, 1, 0, 1]
noncomputable def K34 (k : Nat) : C := outD h c16 (K33 k)
noncomputable def K35 (k : Nat) : C := seqC E h k c16 (K33 k)
noncomputable def K36 (k : Nat) : C := blockK 2 (K34 k)
noncomputable def c17 : Code := subC b [1, 1, 1, 1, 1, 0, 1, 0, 0]
noncomputable def K37 (k n5 : Nat) : C := loopD E h k c17 (K36 k) n5
noncomputable def c18 : Code := subC b [1, 1, 1, 1, 1, 0, 1, 0, 0, 1]
noncomputable def K38 (k n5 : Nat) : C := outD h c18 (K37 k n5)
noncomputable def K39 (k n5 : Nat) : C := seqC E h k c18 (K37 k n5)
noncomputable def c19 : Code := subC b [1, 1, 1, 1, 1, 0, 1, 0, 0, 1, 1]
noncomputable def K40 (k n5 : Nat) : C := outD h c19 (K38 k n5)
noncomputable def K41 (k n5 : Nat) : C := seqC E h k c19 (K38 k n5)
noncomputable def c20 : Code := subC b [1, 1, 1, 1, 1, 0, 1, 0, 0, 1, 1, 1]
noncomputable def K42 (k n5 : Nat) : C := outD h c20 (K40 k n5)
noncomputable def K43 (k n5 : Nat) : C := seqC E h k c20 (K40 k n5)
noncomputable def K44 (k n5 : Nat) : C := blockK 3 (K43 k n5)
noncomputable def c21 : Code := subC b [1, 1, 1, 1, 1, 0, 1, 0, 0, 1, 1, 0, 0, 1]
noncomputable def K45 (k n5 : Nat) : C := outD h c21 (K44 k n5)
noncomputable def K46 (k n5 : Nat) : C := seqC E h k c21 (K44 k n5)
noncomputable def c22 : Code := subC b [1, 1, 1, 1, 1, 0, 1, 0, 0, 1, 1, 0, 0, 1, 1]
noncomputable def K47 (k n5 : Nat) : C := outD h c22 (K45 k n5)
noncomputable def K48 (k n5 : Nat) : C := seqC E h k c22 (K45 k n5)
noncomputable def c23 : Code := subC b [1, 1, 1, 1, 1, 0, 1, 0, 0, 1, 1, 0, 0, 1, 1, 0, 1]
noncomputable def K49 (k n5 : Nat) : C := outD h c23 (K47 k n5)
noncomputable def K50 (k n5 : Nat) : C := seqC E h k c23 (K47 k n5)
noncomputable def c24 : Code := subC b [1, 1, 1, 1, 1, 0, 1, 0, 0, 1, 1, 0, 0, 1, 1, 0, 1, 1]
noncomputable def K51 (k n5 : Nat) : C := outD h c24 (K49 k n5)
noncomputable def K52 (k n5 : Nat) : C := seqC E h k c24 (K49 k n5)
noncomputable def c25 : Code := subC b [1, 1, 1, 1, 1, 0, 1, 0, 0, 1, 1, 0, 0, 1, 1, 0, 1, 1, 0, 1]
noncomputable def K53 (k n5 : Nat) : C := outD h c25 (K51 k n5)
noncomputable def K54 (k n5 : Nat) : C := seqC E h k c25 (K51 k n5)
noncomputable def c26 : Code := subC b [1, 1, 1, 1, 1, 1, 1]
noncomputable def K55 (k : Nat) : C := outD h c26 (K32 k)
noncomputable def K56 (k : Nat) : C := seqC E h k c26 (K32 k)
abbrev T6 := Int → Int → (Option N0) → Int → Int → R
abbrev T7 := R
abbrev T5 := Int → Int → (Option N0) → Int → Int → R
abbrev T4 := Int → Int → (Option N0) → R
abbrev T3 := Int → Int → (Option N0) → R
abbrev T2 := Int → (Option N0) → R
abbrev T1 := Int → Bool → (Option N0) → R
abbrev T0 := (Option N0) → Int → R
abbrev s6 : Int → Int → (Option N0) → Int → Int → ST cx := fun (x1 x6 : Int) (x7 : Option N0) (x65 x66 : Int) => ({ vars := [(1, .v (.int .i64) .ro x1), (6, .v (.int .i64) .ro x6), (7, .v (.ptr 0) .ro x7), (65, .v (.int .i64) .ro x65), (66, .v (.int .i64) .ro x66)], scr := [], mems := [] } : ST cx)
noncomputable def u6 (k n5 : Nat) : T6 := fun (x1 x6 : Int) (x7 : Option N0) (x65 x66 : Int) => uK (run E h k c20) (s6 x1 x6 x7 x65 x66) (K42 k n5)
noncomputable abbrev l6 (k n5 : Nat) : T6 := fun (x1 x6 : Int) (x7 : Option N0) (x65 x66 : Int) => cutK (run E h k c20) (s6 x1 x6 x7 x65 x66) (K42 k n5)
abbrev s7 : ST cx := ({ vars := [], scr := [], mems := [] } : ST cx)
noncomputable def u7 (k : Nat) : T7 := uK (run E h k c15) s7 (K32 k)
noncomputable abbrev l7 (k : Nat) : T7 := cutK (run E h k c15) s7 (K32 k)
abbrev s5 : Int → Int → (Option N0) → Int → Int → ST cx := fun (x1 x6 : Int) (x7 : Option N0) (x65 x66 : Int) => ({ vars := [(1, .v (.int .i64) .ro x1), (6, .v (.int .i64) .ro x6), (7, .v (.ptr 0) .ro x7), (65, .v (.int .i64) .ro x65), (66, .v (.int .i64) .ro x66)], scr := [], mems := [] } : ST cx)
noncomputable def u5 (k n5 : Nat) : T5 := fun (x1 x6 : Int) (x7 : Option N0) (x65 x66 : Int) => uK (loopL E h k c17 (K36 k) n5) (s5 x1 x6 x7 x65 x66) ()
noncomputable abbrev l5 (k n5 : Nat) : T5 := fun (x1 x6 : Int) (x7 : Option N0) (x65 x66 : Int) => cutK (loopL E h k c17 (K36 k) n5) (s5 x1 x6 x7 x65 x66) ()
abbrev s4 : Int → Int → (Option N0) → ST cx := fun (x1 x6 : Int) (x7 : Option N0) => ({ vars := [(1, .v (.int .i64) .ro x1), (6, .v (.int .i64) .ro x6), (7, .v (.ptr 0) .ro x7)], scr := [], mems := [] } : ST cx)
noncomputable def u4 (k : Nat) : T4 := fun (x1 x6 : Int) (x7 : Option N0) => uK (run E h k c8) (s4 x1 x6 x7) (K17 k)
noncomputable abbrev l4 (k : Nat) : T4 := fun (x1 x6 : Int) (x7 : Option N0) => cutK (run E h k c8) (s4 x1 x6 x7) (K17 k)
abbrev s3 : Int → Int → (Option N0) → ST cx := fun (x1 x6 : Int) (x7 : Option N0) => ({ vars := [(1, .v (.int .i64) .ro x1), (6, .v (.int .i64) .ro x6), (7, .v (.ptr 0) .ro x7)], scr := [], mems := [] } : ST cx)
noncomputable def u3 (k n3 : Nat) : T3 := fun (x1 x6 : Int) (x7 : Option N0) => uK (loopL E h k c9 (K19 k) n3) (s3 x1 x6 x7) ()
noncomputable abbrev l3 (k n3 : Nat) : T3 := fun (x1 x6 : Int) (x7 : Option N0) => cutK (loopL E h k c9 (K19 k) n3) (s3 x1 x6 x7) ()
abbrev s2 : Int → (Option N0) → ST cx := fun (x1 : Int) (m2 : Option N0) => ({ vars := [(1, .v (.int .i64) .ro x1), (2, .addr (.mem 2) [])], scr := [], mems := [(2, ⟨(.agg (.ptr 0)), .ro, m2⟩)] } : ST cx)
noncomputable def u2 (k : Nat) : T2 := fun (x1 : Int) (m2 : Option N0) => uK (run E h k c1) (s2 x1 m2) (K3 k)
noncomputable abbrev l2 (k : Nat) : T2 := fun (x1 : Int) (m2 : Option N0) => cutK (run E h k c1) (s2 x1 m2) (K3 k)
abbrev s1 : Int → Bool → (Option N0) → ST cx := fun (x1 : Int) (x19 : Bool) (m2 : Option N0) => ({ vars := [(1, .v (.int .i64) .ro x1), (2, .addr (.mem 2) []), (19, .v .bool .ro x19)], scr := [], mems := [(2, ⟨(.agg (.ptr 0)), .ro, m2⟩)] } : ST cx)
noncomputable def u1 (k : Nat) : T1 := fun (x1 : Int) (x19 : Bool) (m2 : Option N0) => uK (run E h k c2) (s1 x1 x19 m2) (K5 k)
noncomputable abbrev l1 (k : Nat) : T1 := fun (x1 : Int) (x19 : Bool) (m2 : Option N0) => cutK (run E h k c2) (s1 x1 x19 m2) (K5 k)
noncomputable def u0 (k : Nat) : T0 := fun (x0 : Option N0) (x1 : Int) => runOf (S := cx) E h k Try.f85 [.val (.agg (.ptr 0)), .val (.int .i64)] (.pair (.int .i64) .bool) .ro (x0, x1, ())
def t6 (f5 : T5) : T6 := fun (x1 x6 : Int) (x7 : Option N0) (x65 x66 : Int) => 
  (f5 x1 x6 x7 x65 (w64 (x66 + (1 : Int))))
theorem e6 (k n5 : Nat) : u6 k n5 = t6 (l5 k n5) := by kernel_rfl
theorem g6 (k n5 : Nat) : l6 k n5 = u6 k n5 := funext fun _ => funext fun _ => funext fun _ => funext fun _ => funext fun _ => cut_u _ _ _
theorem d6 {x5 y5 : T5} (h5 : x5 = y5) : t6 x5 = t6 y5 := by subst h5; rfl
def p6 (k : Nat) (a5 : T5) : T6 := t6 a5
theorem o6 (k n5 : Nat) (a5 : T5) (h5 : l5 k n5 = a5) : l6 k n5 = p6 k a5 := (Eq.trans (b := u6 k n5) (g6 k n5) (Eq.trans (b := t6 (l5 k n5)) (e6 k n5) (Eq.trans (b := t6 a5) (d6 h5) (by kernel_rfl))))
def t7 : T7 := 
  (some (((0 : Int), false), ()))
theorem e7 (k : Nat) : u7 k = t7 := by kernel_rfl
theorem g7 (k : Nat) : l7 k = u7 k := cut_u _ _ _
def p7 (k : Nat) : T7 := t7
theorem o7 (k : Nat) : l7 k = p7 k := (Eq.trans (b := u7 k) (g7 k) (Eq.trans (b := t7) (e7 k) (by kernel_rfl)))
def t5 (f6 : T6) (f7 : T7) : T5 := fun (x1 x6 : Int) (x7 : Option N0) (x65 x66 : Int) => 
  (iteB (decide (x66 < x65)) (bindR x7 fun z10 => (withinR x66 (List.length (out0 z10).2.1) fun q11 => (iteB (decide ((byteAt (out0 z10).2.1 q11) = (10 : Int))) (iteB (decide ((w64 (x1 - (1 : Int))) = (0 : Int))) (some (((w64 ((w64 (x6 + x66)) + (1 : Int))), true), ())) (f6 (w64 (x1 - (1 : Int))) x6 x7 x65 x66)) (f6 x1 x6 x7 x65 x66)))) f7)
theorem e5 (k n5 : Nat) : u5 k (n5 + 1) = t5 (l6 k n5) (l7 k) := by kernel_rfl
theorem g5 (k n5 : Nat) : l5 k (n5 + 1) = u5 k (n5 + 1) := funext fun _ => funext fun _ => funext fun _ => funext fun _ => funext fun _ => cut_u _ _ _
theorem d5 {x6 y6 : T6} {x7 y7 : T7} (h6 : x6 = y6) (h7 : x7 = y7) : t5 x6 x7 = t5 y6 y7 := by subst h6; subst h7; rfl
def p5 (k : Nat) : Nat → T5
  | 0 => fun _ _ _ _ _ => none
  | n5 + 1 => t5 (p6 k (p5 k n5)) (p7 k)
theorem o5 (k : Nat) : ∀ n5, l5 k n5 = p5 k n5 := by
  intro n5
  induction n5 with
  | zero => kernel_rfl
  | succ n5 ih => exact (Eq.trans (b := u5 k (n5 + 1)) (g5 k n5) (Eq.trans (b := t5 (l6 k n5) (l7 k)) (e5 k n5) (Eq.trans (b := t5 (p6 k (p5 k n5)) (p7 k)) (d5 (o6 k n5 (p5 k n5) ih) (o7 k)) (by kernel_rfl))))
def t4 (f5 : T5) : T4 := fun (x1 x6 : Int) (x7 : Option N0) => 
  (bindR x7 fun z9 => (f5 x1 x6 x7 ((List.length (out0 z9).2.1 : Nat) : Int) (0 : Int)))
theorem e4 (k : Nat) : u4 k = t4 (l5 k k) := by kernel_rfl
theorem g4 (k : Nat) : l4 k = u4 k := funext fun _ => funext fun _ => funext fun _ => cut_u _ _ _
theorem d4 {x5 y5 : T5} (h5 : x5 = y5) : t4 x5 = t4 y5 := by subst h5; rfl
def p4 (k : Nat) : T4 := t4 (p5 k k)
theorem o4 (k : Nat) : l4 k = p4 k := (Eq.trans (b := u4 k) (g4 k) (Eq.trans (b := t4 (l5 k k)) (e4 k) (Eq.trans (b := t4 (p5 k k)) (d4 (o5 k k)) (by kernel_rfl))))
def t3 (f3 : T3) (f4 : T4) : T3 := fun (x1 x6 : Int) (x7 : Option N0) => 
  (bindR x7 fun z2 => (iteB (!(Option.isNone (out0 z2).2.2.1)) (bindR x7 fun z3 => (bindR ((out0 z3).2.2.1) fun z4 => (iteB (decide (x1 ≤ (out0 z4).1.2.1)) (bindR x7 fun z5 => (f3 x1 x6 ((out0 z5).2.2.1))) (bindR x7 fun z6 => (bindR ((out0 z6).2.2.1) fun z7 => (bindR x7 fun z8 => (f3 (w64 (x1 - (out0 z4).1.2.1)) (w64 (x6 + (out0 z7).1.1)) ((out0 z8).2.2.2)))))))) (f4 x1 x6 x7)))
theorem e3 (k n3 : Nat) : u3 k (n3 + 1) = t3 (l3 k n3) (l4 k) := by kernel_rfl
theorem g3 (k n3 : Nat) : l3 k (n3 + 1) = u3 k (n3 + 1) := funext fun _ => funext fun _ => funext fun _ => cut_u _ _ _
theorem d3 {x3 y3 : T3} {x4 y4 : T4} (h3 : x3 = y3) (h4 : x4 = y4) : t3 x3 x4 = t3 y3 y4 := by subst h3; subst h4; rfl
def p3 (k : Nat) : Nat → T3
  | 0 => fun _ _ _ => none
  | n3 + 1 => t3 (p3 k n3) (p4 k)
theorem o3 (k : Nat) : ∀ n3, l3 k n3 = p3 k n3 := by
  intro n3
  induction n3 with
  | zero => kernel_rfl
  | succ n3 ih => exact (Eq.trans (b := u3 k (n3 + 1)) (g3 k n3) (Eq.trans (b := t3 (l3 k n3) (l4 k)) (e3 k n3) (Eq.trans (b := t3 (p3 k n3) (p4 k)) (d3 ih (o4 k)) (by kernel_rfl))))
def t2 (f3 : T3) : T2 := fun (x1 : Int) (m2 : Option N0) => 
  (iteB (decide (x1 = (0 : Int))) (some (((0 : Int), true), ())) (f3 x1 (0 : Int) m2))
theorem e2 (k : Nat) : u2 k = t2 (l3 k k) := by kernel_rfl
theorem g2 (k : Nat) : l2 k = u2 k := funext fun _ => funext fun _ => cut_u _ _ _
theorem d2 {x3 y3 : T3} (h3 : x3 = y3) : t2 x3 = t2 y3 := by subst h3; rfl
def p2 (k : Nat) : T2 := t2 (p3 k k)
theorem o2 (k : Nat) : l2 k = p2 k := (Eq.trans (b := u2 k) (g2 k) (Eq.trans (b := t2 (l3 k k)) (e2 k) (Eq.trans (b := t2 (p3 k k)) (d2 (o3 k k)) (by kernel_rfl))))
def t1 (f2 : T2) : T1 := fun (x1 : Int) (x19 : Bool) (m2 : Option N0) => 
  (iteB x19 (some (((0 : Int), false), ())) (f2 x1 m2))
theorem e1 (k : Nat) : u1 k = t1 (l2 k) := by kernel_rfl
theorem g1 (k : Nat) : l1 k = u1 k := funext fun _ => funext fun _ => funext fun _ => cut_u _ _ _
theorem d1 {x2 y2 : T2} (h2 : x2 = y2) : t1 x2 = t1 y2 := by subst h2; rfl
def p1 (k : Nat) : T1 := t1 (p2 k)
theorem o1 (k : Nat) : l1 k = p1 k := (Eq.trans (b := u1 k) (g1 k) (Eq.trans (b := t1 (l2 k)) (e1 k) (Eq.trans (b := t1 (p2 k)) (d1 (o2 k)) (by kernel_rfl))))
def t0 (f1 : T1) : T0 := fun (x0 : Option N0) (x1 : Int) => 
  (iteB (decide (x1 < (0 : Int))) (f1 x1 true x0) (bindR (s_rope_part_all (x0, ())) fun r1 => (f1 x1 (decide (r1.1.2.1 < x1)) x0)))
theorem e0 (k : Nat) : u0 k = t0 (l1 k) := by kernel_rfl
theorem d0 {x1 y1 : T1} (h1 : x1 = y1) : t0 x1 = t0 y1 := by subst h1; rfl
def p0 (k : Nat) : T0 := t0 (p1 k)
theorem o0 (k : Nat) : u0 k = p0 k := (Eq.trans (b := t0 (l1 k)) (e0 k) (Eq.trans (b := t0 (p1 k)) (d0 (o1 k)) (by kernel_rfl)))
end rope_Rope_Line
def s_rope_Rope_Line (a : (Option N0) × ((Int) × (Unit))) : Option (((Int) × (Bool)) × (Unit)) := rope_Rope_Line.p0 (fuel) a.1 a.2.1
noncomputable def F_rope_Rope_Line : FSpec cx.toNm := { ps := [.val (.agg (.ptr 0)), .val (.int .i64)], nres := 2, rt := (.pair (.int .i64) .bool), rm := .ro, f := s_rope_Rope_Line }
namespace rope_Rope_ahead
noncomputable def E : Env cx := { tys := tys, fs := fsOf [(45, F_rope_Rope_Len), (87, F_rope_part_all), (92, F_rope_split)] }
abbrev R := Option (((Int) × ((Int) × ((Int) × (Int)))) × (Unit))
abbrev C := Exit → ST cx → R
noncomputable def b : Code := bodyC Try.f122
noncomputable def h : Hint := { vs := [0, 1, 2, 4, 5], nil := [], cuts := [], ret := ([4], [2, 4]), ords := [] }
noncomputable def K0 : C := fin (S := cx) E Try.f122.results.toList (.agg (.pair (.int .i64) (.pair (.int .i64) (.pair (.int .i64) (.int .i64))))) .ro [] []
noncomputable def c0 : Code := subC b [1]
noncomputable def K1 (k : Nat) : C := outD h c0 K0
noncomputable def K2 (k : Nat) : C := seqC E h k c0 K0
noncomputable def c1 : Code := subC b [1, 1]
noncomputable def K3 (k : Nat) : C := outD h c1 (K1 k)
noncomputable def K4 (k : Nat) : C := seqC E h k c1 (K1 k)
noncomputable def c2 : Code := subC b [1, 1, 1]
noncomputable def K5 (k : Nat) : C := outD h c2 (K3 k)
noncomputable def K6 (k : Nat) : C := seqC E h k c2 (K3 k)
abbrev T0 := (Option N0) → Int → R
noncomputable def u0 (k : Nat) : T0 := fun (x0 : Option N0) (x1 : Int) => runOf (S := cx) E h k Try.f122 [.val (.agg (.ptr 0)), .val (.int .i64)] (.agg (.pair (.int .i64) (.pair (.int .i64) (.pair (.int .i64) (.int .i64))))) .ro (x0, x1, ())
def t0 : T0 := fun (x0 : Option N0) (x1 : Int) => 
  (bindR (s_rope_Rope_Len (x0, ())) fun r1 => (bindR (s_rope_split (x0, ((minI (maxI x1 (0 : Int)) r1.1), ()))) fun r2 => (bindR (s_rope_part_all (r2.1.1, ())) fun r3 => (some (r3.1, ())))))
theorem e0 (k : Nat) : u0 k = t0 := by kernel_rfl
def p0 (k : Nat) : T0 := t0
theorem o0 (k : Nat) : u0 k = p0 k := (Eq.trans (b := t0) (e0 k) (by kernel_rfl))
end rope_Rope_ahead
def s_rope_Rope_ahead (a : (Option N0) × ((Int) × (Unit))) : Option (((Int) × ((Int) × ((Int) × (Int)))) × (Unit)) := rope_Rope_ahead.p0 (fuel) a.1 a.2.1
noncomputable def F_rope_Rope_ahead : FSpec cx.toNm := { ps := [.val (.agg (.ptr 0)), .val (.int .i64)], nres := 1, rt := (.agg (.pair (.int .i64) (.pair (.int .i64) (.pair (.int .i64) (.int .i64))))), rm := .ro, f := s_rope_Rope_ahead }
namespace rope_Rope_Lines
noncomputable def E : Env cx := { tys := tys, fs := fsOf [(122, F_rope_Rope_ahead)] }
abbrev R := Option ((Int) × (Unit))
abbrev C := Exit → ST cx → R
noncomputable def b : Code := bodyC Try.f86
noncomputable def h : Hint := { vs := [0, 1, 2, 4], nil := [], cuts := [], ret := ([4], [2]), ords := [] }
noncomputable def K0 : C := fin (S := cx) E Try.f86.results.toList (.int .i64) .ro [] []
noncomputable def c0 : Code := subC b [1]
noncomputable def K1 (k : Nat) : C := outD h c0 K0
noncomputable def K2 (k : Nat) : C := seqC E h k c0 K0
noncomputable def c1 : Code := subC b [1, 1]
noncomputable def K3 (k : Nat) : C := outD h c1 (K1 k)
noncomputable def K4 (k : Nat) : C := seqC E h k c1 (K1 k)
abbrev T0 := (Option N0) → Int → R
noncomputable def u0 (k : Nat) : T0 := fun (x0 : Option N0) (x1 : Int) => runOf (S := cx) E h k Try.f86 [.val (.agg (.ptr 0)), .val (.int .i64)] (.int .i64) .ro (x0, x1, ())
def t0 : T0 := fun (x0 : Option N0) (x1 : Int) => 
  (bindR (s_rope_Rope_ahead (x0, (x1, ()))) fun r1 => (some (r1.1.2.1, ())))
theorem e0 (k : Nat) : u0 k = t0 := by kernel_rfl
def p0 (k : Nat) : T0 := t0
theorem o0 (k : Nat) : u0 k = p0 k := (Eq.trans (b := t0) (e0 k) (by kernel_rfl))
end rope_Rope_Lines
def s_rope_Rope_Lines (a : (Option N0) × ((Int) × (Unit))) : Option ((Int) × (Unit)) := rope_Rope_Lines.p0 (fuel) a.1 a.2.1
noncomputable def F_rope_Rope_Lines : FSpec cx.toNm := { ps := [.val (.agg (.ptr 0)), .val (.int .i64)], nres := 1, rt := (.int .i64), rm := .ro, f := s_rope_Rope_Lines }
namespace law02_alive
noncomputable def E : Env cx := { tys := tys, fs := fsOf [(36, F_rope_Rope_Put), (39, F_Text), (40, F_rope_Of), (41, F_rope_Rope_Take), (85, F_rope_Rope_Line), (86, F_rope_Rope_Lines)] }
abbrev R := Option ((Bool) × (Unit))
abbrev C := Exit → ST cx → R
noncomputable def b : Code := bodyC Try.f35
noncomputable def h : Hint := { vs := [0, 1, 2, 3, 4, 5, 6, 7, 8, 9, 10, 12], nil := [], cuts := [], ret := ([0], [1, 3, 5, 7]), ords := [] }
noncomputable def K0 : C := fin (S := cx) E Try.f35.results.toList .bool .ro [] []
noncomputable def c0 : Code := subC b [1]
noncomputable def K1 (k : Nat) : C := outD h c0 K0
noncomputable def K2 (k : Nat) : C := seqC E h k c0 K0
noncomputable def c1 : Code := subC b [1, 1]
noncomputable def K3 (k : Nat) : C := outD h c1 (K1 k)
noncomputable def K4 (k : Nat) : C := seqC E h k c1 (K1 k)
noncomputable def c2 : Code := subC b [1, 1, 1]
noncomputable def K5 (k : Nat) : C := outD h c2 (K3 k)
noncomputable def K6 (k : Nat) : C := seqC E h k c2 (K3 k)
noncomputable def c3 : Code := subC b [1, 1, 1, 1]
noncomputable def K7 (k : Nat) : C := outD h c3 (K5 k)
noncomputable def K8 (k : Nat) : C := seqC E h k c3 (K5 k)
noncomputable def c4 : Code := subC b [1, 1, 1, 1, 1]
noncomputable def K9 (k : Nat) : C := outD h c4 (K7 k)
noncomputable def K10 (k : Nat) : C := seqC E h k c4 (K7 k)
noncomputable def c5 : Code := subC b [1, 1, 1, 1, 1, 1]
noncomputable def K11 (k : Nat) : C := outD h c5 (K9 k)
noncomputable def K12 (k : Nat) : C := seqC E h k c5 (K9 k)
noncomputable def c6 : Code := subC b [1, 1, 1, 1, 1, 1, 1]
noncomputable def K13 (k : Nat) : C := outD h c6 (K11 k)
noncomputable def K14 (k : Nat) : C := seqC E h k c6 (K11 k)
noncomputable def c7 : Code := subC b [1, 1, 1, 1, 1, 1, 1, 1]
noncomputable def K15 (k : Nat) : C := outD h c7 (K13 k)
noncomputable def K16 (k : Nat) : C := seqC E h k c7 (K13 k)
abbrev T0 := R
noncomputable def u0 (k : Nat) : T0 := runOf (S := cx) E h k Try.f35 [] .bool .ro (())
def t0 : T0 := 
  (bindR (s_rope_Of (([97, 98] : List UInt8), ())) fun r1 => (bindR (s_rope_Rope_Put (r1.1.1, ((1 : Int), (([120, 121] : List UInt8), ())))) fun r2 => (bindR (s_rope_Rope_Take (r2.1.1, ((0 : Int), ((2 : Int), ())))) fun r3 => (bindR (s_rope_Of (([97, 10, 98, 10] : List UInt8), ())) fun r4 => (bindR (s_rope_Rope_Line (r4.1.1, ((1 : Int), ()))) fun r5 => (bindR (s_rope_Rope_Line (r4.1.1, ((3 : Int), ()))) fun r6 => (iteB (decide (r1.1.2 = (0 : Int))) (iteB (decide (r2.1.2 = (0 : Int))) (iteB (decide (r3.1.2 = (0 : Int))) (iteB (decide (r4.1.2 = (0 : Int))) (bindR (s_Text (r2.1.1, ())) fun r7 => (iteB (decide (r7.1 = ([97, 120, 121, 98] : List UInt8))) (bindR (s_Text (r3.1.1, ())) fun r8 => (iteB (decide (r8.1 = ([121, 98] : List UInt8))) (bindR (s_rope_Rope_Lines (r4.1.1, ((3 : Int), ()))) fun r9 => (iteB (decide (r9.1 = (1 : Int))) (iteB (decide (r5.1.1 = (2 : Int))) (iteB r5.1.2 (iteB (notB r6.1.2) (bindR (s_Text (r1.1.1, ())) fun r10 => (some ((decide (r10.1 = ([97, 98] : List UInt8))), ()))) (some (false, ()))) (some (false, ()))) (some (false, ()))) (some (false, ())))) (some (false, ())))) (some (false, ())))) (some (false, ()))) (some (false, ()))) (some (false, ()))) (some (false, ())))))))))
theorem e0 (k : Nat) : u0 k = t0 := by kernel_rfl
def p0 (k : Nat) : T0 := t0
theorem o0 (k : Nat) : u0 k = p0 k := (Eq.trans (b := t0) (e0 k) (by kernel_rfl))
end law02_alive
def s_law02_alive (a : Unit) : Option ((Bool) × (Unit)) := law02_alive.p0 (fuel)
noncomputable def F_law02_alive : FSpec cx.toNm := { ps := [], nres := 1, rt := .bool, rm := .ro, f := s_law02_alive }
namespace rope_Rope_Height
noncomputable def E : Env cx := { tys := tys, fs := fsOf [(87, F_rope_part_all)] }
abbrev R := Option ((Int) × (Unit))
abbrev C := Exit → ST cx → R
noncomputable def b : Code := bodyC Try.f37
noncomputable def h : Hint := { vs := [0, 1, 2], nil := [], cuts := [], ret := ([2], [1]), ords := [] }
noncomputable def K0 : C := fin (S := cx) E Try.f37.results.toList (.int .i64) .ro [] []
noncomputable def c0 : Code := subC b [1]
noncomputable def K1 (k : Nat) : C := outD h c0 K0
noncomputable def K2 (k : Nat) : C := seqC E h k c0 K0
noncomputable def c1 : Code := subC b [1, 1]
noncomputable def K3 (k : Nat) : C := outD h c1 (K1 k)
noncomputable def K4 (k : Nat) : C := seqC E h k c1 (K1 k)
abbrev T0 := (Option N0) → R
noncomputable def u0 (k : Nat) : T0 := fun (x0 : Option N0) => runOf (S := cx) E h k Try.f37 [.val (.agg (.ptr 0))] (.int .i64) .ro (x0, ())
def t0 : T0 := fun (x0 : Option N0) => 
  (bindR (s_rope_part_all (x0, ())) fun r1 => (some (r1.1.2.2.2, ())))
theorem e0 (k : Nat) : u0 k = t0 := by kernel_rfl
def p0 (k : Nat) : T0 := t0
theorem o0 (k : Nat) : u0 k = p0 k := (Eq.trans (b := t0) (e0 k) (by kernel_rfl))
end rope_Rope_Height
def s_rope_Rope_Height (a : (Option N0) × (Unit)) : Option ((Int) × (Unit)) := rope_Rope_Height.p0 (fuel) a.1
noncomputable def F_rope_Rope_Height : FSpec cx.toNm := { ps := [.val (.agg (.ptr 0))], nres := 1, rt := (.int .i64), rm := .ro, f := s_rope_Rope_Height }
namespace ref02_Bound
noncomputable def E : Env cx := { tys := tys, fs := fsOf [] }
abbrev R := Option ((Int) × (Unit))
abbrev C := Exit → ST cx → R
noncomputable def b : Code := bodyC Try.f38
noncomputable def h : Hint := { vs := [0, 2, 3, 4], nil := [], cuts := [(3, ([3, 4], []), ([3], [])), (6, ([3], []), ([3], []))], ret := ([2], []), ords := [] }
noncomputable def K0 : C := fin (S := cx) E Try.f38.results.toList (.int .i64) .ro [] []
noncomputable def c0 : Code := subC b [1]
noncomputable def K1 (k : Nat) : C := outD h c0 K0
noncomputable def K2 (k : Nat) : C := seqC E h k c0 K0
noncomputable def c1 : Code := subC b [1, 1]
noncomputable def K3 (k : Nat) : C := outD h c1 (K1 k)
noncomputable def K4 (k : Nat) : C := seqC E h k c1 (K1 k)
noncomputable def c2 : Code := subC b [1, 1, 1]
noncomputable def K5 (k : Nat) : C := outD h c2 (K3 k)
noncomputable def K6 (k : Nat) : C := seqC E h k c2 (K3 k)
noncomputable def c3 : Code := subC b [1, 1, 0, 1]
noncomputable def K7 (k : Nat) : C := outD h c3 (K6 k)
noncomputable def K8 (k : Nat) : C := seqC E h k c3 (K6 k)
noncomputable def K9 (k : Nat) : C := blockK 0 (K7 k)
noncomputable def c4 : Code := subC b [1, 1, 0, 1, 0, 0]
noncomputable def K10 (k n1 : Nat) : C := loopD E h k c4 (K9 k) n1
noncomputable def c5 : Code := subC b [1, 1, 0, 1, 0, 0, 1]
noncomputable def K11 (k n1 : Nat) : C := outD h c5 (K10 k n1)
noncomputable def K12 (k n1 : Nat) : C := seqC E h k c5 (K10 k n1)
noncomputable def c6 : Code := subC b [1, 1, 0, 1, 0, 0, 0, 1]
noncomputable def K13 (k n1 : Nat) : C := outD h c6 (K12 k n1)
noncomputable def K14 (k n1 : Nat) : C := seqC E h k c6 (K12 k n1)
noncomputable def c7 : Code := subC b [1, 1, 0, 1, 0, 0, 1, 1]
noncomputable def K15 (k n1 : Nat) : C := outD h c7 (K11 k n1)
noncomputable def K16 (k n1 : Nat) : C := seqC E h k c7 (K11 k n1)
noncomputable def K17 (k n1 : Nat) : C := blockK 1 (K16 k n1)
noncomputable def c8 : Code := subC b [1, 1, 1, 1]
noncomputable def K18 (k : Nat) : C := outD h c8 (K5 k)
noncomputable def K19 (k : Nat) : C := seqC E h k c8 (K5 k)
abbrev T2 := Int → R
abbrev T1 := Int → Int → R
abbrev T0 := Int → R
abbrev s2 : Int → ST cx := fun (x3 : Int) => ({ vars := [(3, .v (.int .i64) .ro x3)], scr := [], mems := [] } : ST cx)
noncomputable def u2 (k : Nat) : T2 := fun (x3 : Int) => uK (run E h k c2) (s2 x3) (K5 k)
noncomputable abbrev l2 (k : Nat) : T2 := fun (x3 : Int) => cutK (run E h k c2) (s2 x3) (K5 k)
abbrev s1 : Int → Int → ST cx := fun (x3 x4 : Int) => ({ vars := [(3, .v (.int .i64) .ro x3), (4, .v (.int .i64) .ro x4)], scr := [], mems := [] } : ST cx)
noncomputable def u1 (k n1 : Nat) : T1 := fun (x3 x4 : Int) => uK (loopL E h k c4 (K9 k) n1) (s1 x3 x4) ()
noncomputable abbrev l1 (k n1 : Nat) : T1 := fun (x3 x4 : Int) => cutK (loopL E h k c4 (K9 k) n1) (s1 x3 x4) ()
noncomputable def u0 (k : Nat) : T0 := fun (x0 : Int) => runOf (S := cx) E h k Try.f38 [.val (.int .i64)] (.int .i64) .ro (x0, ())
def t2 : T2 := fun (x3 : Int) => 
  (some (x3, ()))
theorem e2 (k : Nat) : u2 k = t2 := by kernel_rfl
theorem g2 (k : Nat) : l2 k = u2 k := funext fun _ => cut_u _ _ _
def p2 (k : Nat) : T2 := t2
theorem o2 (k : Nat) : l2 k = p2 k := (Eq.trans (b := u2 k) (g2 k) (Eq.trans (b := t2) (e2 k) (by kernel_rfl)))
def t1 (f1 : T1) (f2 : T2) : T1 := fun (x3 x4 : Int) => 
  (iteB (decide ((0 : Int) < x4)) (f1 (w64 (x3 + (2 : Int))) (w64 (Int.tdiv x4 (2 : Int)))) (f2 x3))
theorem e1 (k n1 : Nat) : u1 k (n1 + 1) = t1 (l1 k n1) (l2 k) := by kernel_rfl
theorem g1 (k n1 : Nat) : l1 k (n1 + 1) = u1 k (n1 + 1) := funext fun _ => funext fun _ => cut_u _ _ _
theorem d1 {x1 y1 : T1} {x2 y2 : T2} (h1 : x1 = y1) (h2 : x2 = y2) : t1 x1 x2 = t1 y1 y2 := by subst h1; subst h2; rfl
def p1 (k : Nat) : Nat → T1
  | 0 => fun _ _ => none
  | n1 + 1 => t1 (p1 k n1) (p2 k)
theorem o1 (k : Nat) : ∀ n1, l1 k n1 = p1 k n1 := by
  intro n1
  induction n1 with
  | zero => kernel_rfl
  | succ n1 ih => exact (Eq.trans (b := u1 k (n1 + 1)) (g1 k n1) (Eq.trans (b := t1 (l1 k n1) (l2 k)) (e1 k n1) (Eq.trans (b := t1 (p1 k n1) (p2 k)) (d1 ih (o2 k)) (by kernel_rfl))))
def t0 (f1 : T1) : T0 := fun (x0 : Int) => 
  (f1 (4 : Int) x0)
theorem e0 (k : Nat) : u0 k = t0 (l1 k k) := by kernel_rfl
theorem d0 {x1 y1 : T1} (h1 : x1 = y1) : t0 x1 = t0 y1 := by subst h1; rfl
def p0 (k : Nat) : T0 := t0 (p1 k k)
theorem o0 (k : Nat) : u0 k = p0 k := (Eq.trans (b := t0 (l1 k k)) (e0 k) (Eq.trans (b := t0 (p1 k k)) (d0 (o1 k k)) (by kernel_rfl)))
end ref02_Bound
def s_ref02_Bound (a : (Int) × (Unit)) : Option ((Int) × (Unit)) := ref02_Bound.p0 (fuel) a.1
noncomputable def F_ref02_Bound : FSpec cx.toNm := { ps := [.val (.int .i64)], nres := 1, rt := (.int .i64), rm := .ro, f := s_ref02_Bound }
namespace ref02_Span
noncomputable def E : Env cx := { tys := tys, fs := fsOf [] }
abbrev R := Option ((Bool) × (Unit))
abbrev C := Exit → ST cx → R
noncomputable def b : Code := bodyC Try.f42
noncomputable def h : Hint := { vs := [0, 1, 2, 6], nil := [], cuts := [], ret := ([6], []), ords := [] }
noncomputable def K0 : C := fin (S := cx) E Try.f42.results.toList .bool .ro [] []
noncomputable def c0 : Code := subC b [1]
noncomputable def K1 (k : Nat) : C := outD h c0 K0
noncomputable def K2 (k : Nat) : C := seqC E h k c0 K0
noncomputable def c1 : Code := subC b [1, 1]
noncomputable def K3 (k : Nat) : C := outD h c1 (K1 k)
noncomputable def K4 (k : Nat) : C := seqC E h k c1 (K1 k)
abbrev T0 := (List UInt8) → Int → Int → R
noncomputable def u0 (k : Nat) : T0 := fun (x0 : List UInt8) (x1 x2 : Int) => runOf (S := cx) E h k Try.f42 [.val .str, .val (.int .i64), .val (.int .i64)] .bool .ro (x0, x1, x2, ())
def t0 : T0 := fun (x0 : List UInt8) (x1 x2 : Int) => 
  (iteB (decide ((0 : Int) ≤ x1)) (iteB (decide (x1 ≤ x2)) (some ((decide (x2 ≤ ((List.length x0 : Nat) : Int))), ())) (some (false, ()))) (some (false, ())))
theorem e0 (k : Nat) : u0 k = t0 := by kernel_rfl
def p0 (k : Nat) : T0 := t0
theorem o0 (k : Nat) : u0 k = p0 k := (Eq.trans (b := t0) (e0 k) (by kernel_rfl))
end ref02_Span
def s_ref02_Span (a : (List UInt8) × ((Int) × ((Int) × (Unit)))) : Option ((Bool) × (Unit)) := ref02_Span.p0 (fuel) a.1 a.2.1 a.2.2.1
noncomputable def F_ref02_Span : FSpec cx.toNm := { ps := [.val .str, .val (.int .i64), .val (.int .i64)], nres := 1, rt := .bool, rm := .ro, f := s_ref02_Span }
namespace rope_Rope_At
noncomputable def E : Env cx := { tys := tys, fs := fsOf [(45, F_rope_Rope_Len)] }
abbrev R := Option (((Int) × (Bool)) × (Unit))
abbrev C := Exit → ST cx → R
noncomputable def b : Code := bodyC Try.f94
noncomputable def h : Hint := { vs := [0, 1, 2, 4, 5, 6, 7], nil := [], cuts := [(2, ([1, 2, 15], [2]), ([1, 2], [2])), (3, ([1, 2], [2]), ([1, 2], [2])), (4, ([1, 6], []), ([1, 6], [])), (9, ([1, 6], []), ([1, 6], []))], ret := ([4, 5], [2]), ords := [] }
noncomputable def K0 : C := fin (S := cx) E Try.f94.results.toList (.pair (.int .u8) .bool) .ro [] []
noncomputable def c0 : Code := subC b [1]
noncomputable def K1 (k : Nat) : C := outD h c0 K0
noncomputable def K2 (k : Nat) : C := seqC E h k c0 K0
noncomputable def c1 : Code := subC b [1, 1]
noncomputable def K3 (k : Nat) : C := outD h c1 (K1 k)
noncomputable def K4 (k : Nat) : C := seqC E h k c1 (K1 k)
noncomputable def c2 : Code := subC b [1, 0, 1]
noncomputable def K5 (k : Nat) : C := outD h c2 (K4 k)
noncomputable def K6 (k : Nat) : C := seqC E h k c2 (K4 k)
noncomputable def c3 : Code := subC b [1, 0, 1, 0, 1]
noncomputable def K7 (k : Nat) : C := outD h c3 (K5 k)
noncomputable def K8 (k : Nat) : C := seqC E h k c3 (K5 k)
noncomputable def c4 : Code := subC b [1, 1, 1]
noncomputable def K9 (k : Nat) : C := outD h c4 (K3 k)
noncomputable def K10 (k : Nat) : C := seqC E h k c4 (K3 k)
noncomputable def c5 : Code := subC b [1, 1, 1, 1]
noncomputable def K11 (k : Nat) : C := outD h c5 (K9 k)
noncomputable def K12 (k : Nat) : C := seqC E h k c5 (K9 k)
noncomputable def K13 (k : Nat) : C := blockK 0 (K12 k)
noncomputable def c6 : Code := subC b [1, 1, 1, 0, 0, 0]
noncomputable def K14 (k n3 : Nat) : C := loopD E h k c6 (K13 k) n3
noncomputable def c7 : Code := subC b [1, 1, 1, 0, 0, 0, 1]
noncomputable def K15 (k n3 : Nat) : C := outD h c7 (K14 k n3)
noncomputable def K16 (k n3 : Nat) : C := seqC E h k c7 (K14 k n3)
noncomputable def c8 : Code := subC b [1, 1, 1, 0, 0, 0, 0, 1]
noncomputable def K17 (k n3 : Nat) : C := outD h c8 (K16 k n3)
noncomputable def K18 (k n3 : Nat) : C := seqC E h k c8 (K16 k n3)
noncomputable def K19 (k n3 : Nat) : C := blockK 1 (K15 k n3)
noncomputable def c9 : Code := subC b [1, 1, 1, 0, 0, 0, 1, 0, 1]
noncomputable def K20 (k n3 : Nat) : C := outD h c9 (K19 k n3)
noncomputable def K21 (k n3 : Nat) : C := seqC E h k c9 (K19 k n3)
noncomputable def c10 : Code := subC b [1, 1, 1, 0, 0, 0, 1, 0, 1, 1]
noncomputable def K22 (k n3 : Nat) : C := outD h c10 (K20 k n3)
noncomputable def K23 (k n3 : Nat) : C := seqC E h k c10 (K20 k n3)
noncomputable def c11 : Code := subC b [1, 1, 1, 1, 1]
noncomputable def K24 (k : Nat) : C := outD h c11 (K11 k)
noncomputable def K25 (k : Nat) : C := seqC E h k c11 (K11 k)
abbrev T4 := Int → (Option N0) → R
abbrev T3 := Int → (Option N0) → R
abbrev T2 := Int → (Option N0) → R
abbrev T1 := Int → Bool → (Option N0) → R
abbrev T0 := (Option N0) → Int → R
abbrev s4 : Int → (Option N0) → ST cx := fun (x1 : Int) (x6 : Option N0) => ({ vars := [(1, .v (.int .i64) .ro x1), (6, .v (.ptr 0) .ro x6)], scr := [], mems := [] } : ST cx)
noncomputable def u4 (k : Nat) : T4 := fun (x1 : Int) (x6 : Option N0) => uK (run E h k c5) (s4 x1 x6) (K11 k)
noncomputable abbrev l4 (k : Nat) : T4 := fun (x1 : Int) (x6 : Option N0) => cutK (run E h k c5) (s4 x1 x6) (K11 k)
abbrev s3 : Int → (Option N0) → ST cx := fun (x1 : Int) (x6 : Option N0) => ({ vars := [(1, .v (.int .i64) .ro x1), (6, .v (.ptr 0) .ro x6)], scr := [], mems := [] } : ST cx)
noncomputable def u3 (k n3 : Nat) : T3 := fun (x1 : Int) (x6 : Option N0) => uK (loopL E h k c6 (K13 k) n3) (s3 x1 x6) ()
noncomputable abbrev l3 (k n3 : Nat) : T3 := fun (x1 : Int) (x6 : Option N0) => cutK (loopL E h k c6 (K13 k) n3) (s3 x1 x6) ()
abbrev s2 : Int → (Option N0) → ST cx := fun (x1 : Int) (m2 : Option N0) => ({ vars := [(1, .v (.int .i64) .ro x1), (2, .addr (.mem 2) [])], scr := [], mems := [(2, ⟨(.agg (.ptr 0)), .ro, m2⟩)] } : ST cx)
noncomputable def u2 (k : Nat) : T2 := fun (x1 : Int) (m2 : Option N0) => uK (run E h k c1) (s2 x1 m2) (K3 k)
noncomputable abbrev l2 (k : Nat) : T2 := fun (x1 : Int) (m2 : Option N0) => cutK (run E h k c1) (s2 x1 m2) (K3 k)
abbrev s1 : Int → Bool → (Option N0) → ST cx := fun (x1 : Int) (x15 : Bool) (m2 : Option N0) => ({ vars := [(1, .v (.int .i64) .ro x1), (2, .addr (.mem 2) []), (15, .v .bool .ro x15)], scr := [], mems := [(2, ⟨(.agg (.ptr 0)), .ro, m2⟩)] } : ST cx)
noncomputable def u1 (k : Nat) : T1 := fun (x1 : Int) (x15 : Bool) (m2 : Option N0) => uK (run E h k c2) (s1 x1 x15 m2) (K5 k)
noncomputable abbrev l1 (k : Nat) : T1 := fun (x1 : Int) (x15 : Bool) (m2 : Option N0) => cutK (run E h k c2) (s1 x1 x15 m2) (K5 k)
noncomputable def u0 (k : Nat) : T0 := fun (x0 : Option N0) (x1 : Int) => runOf (S := cx) E h k Try.f94 [.val (.agg (.ptr 0)), .val (.int .i64)] (.pair (.int .u8) .bool) .ro (x0, x1, ())
def t4 : T4 := fun (x1 : Int) (x6 : Option N0) => 
  (bindR x6 fun z7 => (withinR x1 (List.length (out0 z7).2.1) fun q8 => (some (((byteAt (out0 z7).2.1 q8), true), ()))))
theorem e4 (k : Nat) : u4 k = t4 := by kernel_rfl
theorem g4 (k : Nat) : l4 k = u4 k := funext fun _ => funext fun _ => cut_u _ _ _
def p4 (k : Nat) : T4 := t4
theorem o4 (k : Nat) : l4 k = p4 k := (Eq.trans (b := u4 k) (g4 k) (Eq.trans (b := t4) (e4 k) (by kernel_rfl)))
def t3 (f3 : T3) (f4 : T4) : T3 := fun (x1 : Int) (x6 : Option N0) => 
  (bindR x6 fun z2 => (iteB (!(Option.isNone (out0 z2).2.2.1)) (bindR x6 fun z3 => (bindR ((out0 z3).2.2.1) fun z4 => (iteB (decide (x1 < (out0 z4).1.1)) (bindR x6 fun z5 => (f3 x1 ((out0 z5).2.2.1))) (bindR x6 fun z6 => (f3 (w64 (x1 - (out0 z4).1.1)) ((out0 z6).2.2.2)))))) (f4 x1 x6)))
theorem e3 (k n3 : Nat) : u3 k (n3 + 1) = t3 (l3 k n3) (l4 k) := by kernel_rfl
theorem g3 (k n3 : Nat) : l3 k (n3 + 1) = u3 k (n3 + 1) := funext fun _ => funext fun _ => cut_u _ _ _
theorem d3 {x3 y3 : T3} {x4 y4 : T4} (h3 : x3 = y3) (h4 : x4 = y4) : t3 x3 x4 = t3 y3 y4 := by subst h3; subst h4; rfl
def p3 (k : Nat) : Nat → T3
  | 0 => fun _ _ => none
  | n3 + 1 => t3 (p3 k n3) (p4 k)
theorem o3 (k : Nat) : ∀ n3, l3 k n3 = p3 k n3 := by
  intro n3
  induction n3 with
  | zero => kernel_rfl
  | succ n3 ih => exact (Eq.trans (b := u3 k (n3 + 1)) (g3 k n3) (Eq.trans (b := t3 (l3 k n3) (l4 k)) (e3 k n3) (Eq.trans (b := t3 (p3 k n3) (p4 k)) (d3 ih (o4 k)) (by kernel_rfl))))
def t2 (f3 : T3) : T2 := fun (x1 : Int) (m2 : Option N0) => 
  (f3 x1 m2)
theorem e2 (k : Nat) : u2 k = t2 (l3 k k) := by kernel_rfl
theorem g2 (k : Nat) : l2 k = u2 k := funext fun _ => funext fun _ => cut_u _ _ _
theorem d2 {x3 y3 : T3} (h3 : x3 = y3) : t2 x3 = t2 y3 := by subst h3; rfl
def p2 (k : Nat) : T2 := t2 (p3 k k)
theorem o2 (k : Nat) : l2 k = p2 k := (Eq.trans (b := u2 k) (g2 k) (Eq.trans (b := t2 (l3 k k)) (e2 k) (Eq.trans (b := t2 (p3 k k)) (d2 (o3 k k)) (by kernel_rfl))))
def t1 (f2 : T2) : T1 := fun (x1 : Int) (x15 : Bool) (m2 : Option N0) => 
  (iteB x15 (some (((0 : Int), false), ())) (f2 x1 m2))
theorem e1 (k : Nat) : u1 k = t1 (l2 k) := by kernel_rfl
theorem g1 (k : Nat) : l1 k = u1 k := funext fun _ => funext fun _ => funext fun _ => cut_u _ _ _
theorem d1 {x2 y2 : T2} (h2 : x2 = y2) : t1 x2 = t1 y2 := by subst h2; rfl
def p1 (k : Nat) : T1 := t1 (p2 k)
theorem o1 (k : Nat) : l1 k = p1 k := (Eq.trans (b := u1 k) (g1 k) (Eq.trans (b := t1 (l2 k)) (e1 k) (Eq.trans (b := t1 (p2 k)) (d1 (o2 k)) (by kernel_rfl))))
def t0 (f1 : T1) : T0 := fun (x0 : Option N0) (x1 : Int) => 
  (iteB (decide (x1 < (0 : Int))) (f1 x1 true x0) (bindR (s_rope_Rope_Len (x0, ())) fun r1 => (f1 x1 (decide (r1.1 ≤ x1)) x0)))
theorem e0 (k : Nat) : u0 k = t0 (l1 k) := by kernel_rfl
theorem d0 {x1 y1 : T1} (h1 : x1 = y1) : t0 x1 = t0 y1 := by subst h1; rfl
def p0 (k : Nat) : T0 := t0 (p1 k)
theorem o0 (k : Nat) : u0 k = p0 k := (Eq.trans (b := t0 (l1 k)) (e0 k) (Eq.trans (b := t0 (p1 k)) (d0 (o1 k)) (by kernel_rfl)))
end rope_Rope_At
def s_rope_Rope_At (a : (Option N0) × ((Int) × (Unit))) : Option (((Int) × (Bool)) × (Unit)) := rope_Rope_At.p0 (fuel) a.1 a.2.1
noncomputable def F_rope_Rope_At : FSpec cx.toNm := { ps := [.val (.agg (.ptr 0)), .val (.int .i64)], nres := 2, rt := (.pair (.int .u8) .bool), rm := .ro, f := s_rope_Rope_At }
namespace ref02_Line
noncomputable def E : Env cx := { tys := tys, fs := fsOf [] }
abbrev R := Option ((Int) × (Unit))
abbrev C := Exit → ST cx → R
noncomputable def b : Code := bodyC Try.f95
noncomputable def h : Hint := { vs := [0, 1, 4, 5, 6], nil := [], cuts := [(5, ([0, 1, 5, 6], []), ([], [])), (6, ([0, 1, 5, 6], []), ([0, 1, 5, 6], [])), (11, ([], []), ([], []))], ret := ([4], []), ords := [] }
noncomputable def K0 : C := fin (S := cx) E Try.f95.results.toList (.int .i64) .ro [] []
noncomputable def c0 : Code := subC b [1]
noncomputable def K1 (k : Nat) : C := outD h c0 K0
noncomputable def K2 (k : Nat) : C := seqC E h k c0 K0
noncomputable def c1 : Code := subC b [1, 1]
noncomputable def K3 (k : Nat) : C := outD h c1 (K1 k)
noncomputable def K4 (k : Nat) : C := seqC E h k c1 (K1 k)
noncomputable def c2 : Code := subC b [1, 0, 1]
noncomputable def K5 (k : Nat) : C := outD h c2 (K4 k)
noncomputable def K6 (k : Nat) : C := seqC E h k c2 (K4 k)
noncomputable def c3 : Code := subC b [1, 0, 1, 0, 1]
noncomputable def K7 (k : Nat) : C := outD h c3 (K5 k)
noncomputable def K8 (k : Nat) : C := seqC E h k c3 (K5 k)
noncomputable def c4 : Code := subC b [1, 1, 1]
noncomputable def K9 (k : Nat) : C := outD h c4 (K3 k)
noncomputable def K10 (k : Nat) : C := seqC E h k c4 (K3 k)
noncomputable def c5 : Code := subC b [1, 1, 1, 1]
noncomputable def K11 (k : Nat) : C := outD h c5 (K9 k)
noncomputable def K12 (k : Nat) : C := seqC E h k c5 (K9 k)
noncomputable def c6 : Code := subC b [1, 1, 1, 0, 1]
noncomputable def K13 (k : Nat) : C := outD h c6 (K12 k)
noncomputable def K14 (k : Nat) : C := seqC E h k c6 (K12 k)
noncomputable def K15 (k : Nat) : C := blockK 0 (K13 k)
noncomputable def c7 : Code := subC b [1, 1, 1, 0, 1, 0, 0]
noncomputable def K16 (k n1 : Nat) : C := loopD E h k c7 (K15 k) n1
noncomputable def c8 : Code := subC b [1, 1, 1, 0, 1, 0, 0, 1]
noncomputable def K17 (k n1 : Nat) : C := outD h c8 (K16 k n1)
noncomputable def K18 (k n1 : Nat) : C := seqC E h k c8 (K16 k n1)
noncomputable def c9 : Code := subC b [1, 1, 1, 0, 1, 0, 0, 0, 1]
noncomputable def K19 (k n1 : Nat) : C := outD h c9 (K18 k n1)
noncomputable def K20 (k n1 : Nat) : C := seqC E h k c9 (K18 k n1)
noncomputable def c10 : Code := subC b [1, 1, 1, 0, 1, 0, 0, 1, 1]
noncomputable def K21 (k n1 : Nat) : C := outD h c10 (K17 k n1)
noncomputable def K22 (k n1 : Nat) : C := seqC E h k c10 (K17 k n1)
noncomputable def K23 (k n1 : Nat) : C := blockK 1 (K22 k n1)
noncomputable def c11 : Code := subC b [1, 1, 1, 0, 1, 0, 0, 1, 0, 0, 1]
noncomputable def K24 (k n1 : Nat) : C := outD h c11 (K23 k n1)
noncomputable def K25 (k n1 : Nat) : C := seqC E h k c11 (K23 k n1)
noncomputable def c12 : Code := subC b [1, 1, 1, 0, 1, 0, 0, 1, 0, 0, 1, 0, 1]
noncomputable def K26 (k n1 : Nat) : C := outD h c12 (K24 k n1)
noncomputable def K27 (k n1 : Nat) : C := seqC E h k c12 (K24 k n1)
noncomputable def c13 : Code := subC b [1, 1, 1, 0, 1, 0, 0, 1, 0, 0, 1, 0, 1, 1]
noncomputable def K28 (k n1 : Nat) : C := outD h c13 (K26 k n1)
noncomputable def K29 (k n1 : Nat) : C := seqC E h k c13 (K26 k n1)
noncomputable def c14 : Code := subC b [1, 1, 1, 0, 1, 0, 0, 1, 0, 0, 1, 0, 1, 1, 0, 1]
noncomputable def K30 (k n1 : Nat) : C := outD h c14 (K28 k n1)
noncomputable def K31 (k n1 : Nat) : C := seqC E h k c14 (K28 k n1)
noncomputable def c15 : Code := subC b [1, 1, 1, 1, 1]
noncomputable def K32 (k : Nat) : C := outD h c15 (K11 k)
noncomputable def K33 (k : Nat) : C := seqC E h k c15 (K11 k)
abbrev T2 := (List UInt8) → Int → Int → Int → R
abbrev T3 := R
abbrev T1 := (List UInt8) → Int → Int → Int → R
abbrev T0 := (List UInt8) → Int → R
abbrev s2 : (List UInt8) → Int → Int → Int → ST cx := fun (x0 : List UInt8) (x1 x5 x6 : Int) => ({ vars := [(0, .v .str .ro x0), (1, .v (.int .i64) .ro x1), (5, .v (.int .i64) .ro x5), (6, .v (.int .i64) .ro x6)], scr := [], mems := [] } : ST cx)
noncomputable def u2 (k n1 : Nat) : T2 := fun (x0 : List UInt8) (x1 x5 x6 : Int) => uK (run E h k c10) (s2 x0 x1 x5 x6) (K21 k n1)
noncomputable abbrev l2 (k n1 : Nat) : T2 := fun (x0 : List UInt8) (x1 x5 x6 : Int) => cutK (run E h k c10) (s2 x0 x1 x5 x6) (K21 k n1)
abbrev s3 : ST cx := ({ vars := [], scr := [], mems := [] } : ST cx)
noncomputable def u3 (k : Nat) : T3 := uK (run E h k c5) s3 (K11 k)
noncomputable abbrev l3 (k : Nat) : T3 := cutK (run E h k c5) s3 (K11 k)
abbrev s1 : (List UInt8) → Int → Int → Int → ST cx := fun (x0 : List UInt8) (x1 x5 x6 : Int) => ({ vars := [(0, .v .str .ro x0), (1, .v (.int .i64) .ro x1), (5, .v (.int .i64) .ro x5), (6, .v (.int .i64) .ro x6)], scr := [], mems := [] } : ST cx)
noncomputable def u1 (k n1 : Nat) : T1 := fun (x0 : List UInt8) (x1 x5 x6 : Int) => uK (loopL E h k c7 (K15 k) n1) (s1 x0 x1 x5 x6) ()
noncomputable abbrev l1 (k n1 : Nat) : T1 := fun (x0 : List UInt8) (x1 x5 x6 : Int) => cutK (loopL E h k c7 (K15 k) n1) (s1 x0 x1 x5 x6) ()
noncomputable def u0 (k : Nat) : T0 := fun (x0 : List UInt8) (x1 : Int) => runOf (S := cx) E h k Try.f95 [.val .str, .val (.int .i64)] (.int .i64) .ro (x0, x1, ())
def t2 (f1 : T1) : T2 := fun (x0 : List UInt8) (x1 x5 x6 : Int) => 
  (f1 x0 x1 x5 (w64 (x6 + (1 : Int))))
theorem e2 (k n1 : Nat) : u2 k n1 = t2 (l1 k n1) := by kernel_rfl
theorem g2 (k n1 : Nat) : l2 k n1 = u2 k n1 := funext fun _ => funext fun _ => funext fun _ => funext fun _ => cut_u _ _ _
theorem d2 {x1 y1 : T1} (h1 : x1 = y1) : t2 x1 = t2 y1 := by subst h1; rfl
def p2 (k : Nat) (a1 : T1) : T2 := t2 a1
theorem o2 (k n1 : Nat) (a1 : T1) (h1 : l1 k n1 = a1) : l2 k n1 = p2 k a1 := (Eq.trans (b := u2 k n1) (g2 k n1) (Eq.trans (b := t2 (l1 k n1)) (e2 k n1) (Eq.trans (b := t2 a1) (d2 h1) (by kernel_rfl))))
def t3 : T3 := 
  (some ((-1 : Int), ()))
theorem e3 (k : Nat) : u3 k = t3 := by kernel_rfl
theorem g3 (k : Nat) : l3 k = u3 k := cut_u _ _ _
def p3 (k : Nat) : T3 := t3
theorem o3 (k : Nat) : l3 k = p3 k := (Eq.trans (b := u3 k) (g3 k) (Eq.trans (b := t3) (e3 k) (by kernel_rfl)))
def t1 (f2 : T2) (f3 : T3) : T1 := fun (x0 : List UInt8) (x1 x5 x6 : Int) => 
  (iteB (decide (x6 < ((List.length x0 : Nat) : Int))) (withinR x6 (List.length x0) fun q1 => (iteB (decide ((byteAt x0 q1) = (10 : Int))) (iteB (decide ((w64 (x5 + (1 : Int))) = x1)) (some ((w64 (x6 + (1 : Int))), ())) (f2 x0 x1 (w64 (x5 + (1 : Int))) x6)) (f2 x0 x1 x5 x6))) f3)
theorem e1 (k n1 : Nat) : u1 k (n1 + 1) = t1 (l2 k n1) (l3 k) := by kernel_rfl
theorem g1 (k n1 : Nat) : l1 k (n1 + 1) = u1 k (n1 + 1) := funext fun _ => funext fun _ => funext fun _ => funext fun _ => cut_u _ _ _
theorem d1 {x2 y2 : T2} {x3 y3 : T3} (h2 : x2 = y2) (h3 : x3 = y3) : t1 x2 x3 = t1 y2 y3 := by subst h2; subst h3; rfl
def p1 (k : Nat) : Nat → T1
  | 0 => fun _ _ _ _ => none
  | n1 + 1 => t1 (p2 k (p1 k n1)) (p3 k)
theorem o1 (k : Nat) : ∀ n1, l1 k n1 = p1 k n1 := by
  intro n1
  induction n1 with
  | zero => kernel_rfl
  | succ n1 ih => exact (Eq.trans (b := u1 k (n1 + 1)) (g1 k n1) (Eq.trans (b := t1 (l2 k n1) (l3 k)) (e1 k n1) (Eq.trans (b := t1 (p2 k (p1 k n1)) (p3 k)) (d1 (o2 k n1 (p1 k n1) ih) (o3 k)) (by kernel_rfl))))
def t0 (f1 : T1) : T0 := fun (x0 : List UInt8) (x1 : Int) => 
  (iteB (decide (x1 = (0 : Int))) (some ((0 : Int), ())) (f1 x0 x1 (0 : Int) (0 : Int)))
theorem e0 (k : Nat) : u0 k = t0 (l1 k k) := by kernel_rfl
theorem d0 {x1 y1 : T1} (h1 : x1 = y1) : t0 x1 = t0 y1 := by subst h1; rfl
def p0 (k : Nat) : T0 := t0 (p1 k k)
theorem o0 (k : Nat) : u0 k = p0 k := (Eq.trans (b := t0 (l1 k k)) (e0 k) (Eq.trans (b := t0 (p1 k k)) (d0 (o1 k k)) (by kernel_rfl)))
end ref02_Line
def s_ref02_Line (a : (List UInt8) × ((Int) × (Unit))) : Option ((Int) × (Unit)) := ref02_Line.p0 (fuel) a.1 a.2.1
noncomputable def F_ref02_Line : FSpec cx.toNm := { ps := [.val .str, .val (.int .i64)], nres := 1, rt := (.int .i64), rm := .ro, f := s_ref02_Line }
namespace ref02_Lines
noncomputable def E : Env cx := { tys := tys, fs := fsOf [] }
abbrev R := Option ((Int) × (Unit))
abbrev C := Exit → ST cx → R
noncomputable def b : Code := bodyC Try.f96
noncomputable def h : Hint := { vs := [0, 1, 4, 5, 6], nil := [], cuts := [(3, ([0, 1, 5, 6], []), ([5], [])), (4, ([0, 1, 5, 6], []), ([0, 1, 5, 6], [])), (5, ([0, 1, 5, 6], []), ([0, 1, 5, 6], [])), (7, ([5], []), ([5], []))], ret := ([4], []), ords := [] }
noncomputable def K0 : C := fin (S := cx) E Try.f96.results.toList (.int .i64) .ro [] []
noncomputable def c0 : Code := subC b [1]
noncomputable def K1 (k : Nat) : C := outD h c0 K0
noncomputable def K2 (k : Nat) : C := seqC E h k c0 K0
noncomputable def c1 : Code := subC b [1, 1]
noncomputable def K3 (k : Nat) : C := outD h c1 (K1 k)
noncomputable def K4 (k : Nat) : C := seqC E h k c1 (K1 k)
noncomputable def c2 : Code := subC b [1, 1, 1]
noncomputable def K5 (k : Nat) : C := outD h c2 (K3 k)
noncomputable def K6 (k : Nat) : C := seqC E h k c2 (K3 k)
noncomputable def c3 : Code := subC b [1, 1, 0, 1]
noncomputable def K7 (k : Nat) : C := outD h c3 (K6 k)
noncomputable def K8 (k : Nat) : C := seqC E h k c3 (K6 k)
noncomputable def K9 (k : Nat) : C := blockK 0 (K7 k)
noncomputable def c4 : Code := subC b [1, 1, 0, 1, 0, 0]
noncomputable def K10 (k n1 : Nat) : C := loopD E h k c4 (K9 k) n1
noncomputable def c5 : Code := subC b [1, 1, 0, 1, 0, 0, 1]
noncomputable def K11 (k n1 : Nat) : C := outD h c5 (K10 k n1)
noncomputable def K12 (k n1 : Nat) : C := seqC E h k c5 (K10 k n1)
noncomputable def c6 : Code := subC b [1, 1, 0, 1, 0, 0, 0, 1]
noncomputable def K13 (k n1 : Nat) : C := outD h c6 (K12 k n1)
noncomputable def K14 (k n1 : Nat) : C := seqC E h k c6 (K12 k n1)
noncomputable def c7 : Code := subC b [1, 1, 0, 1, 0, 0, 1, 1]
noncomputable def K15 (k n1 : Nat) : C := outD h c7 (K11 k n1)
noncomputable def K16 (k n1 : Nat) : C := seqC E h k c7 (K11 k n1)
noncomputable def K17 (k n1 : Nat) : C := blockK 1 (K16 k n1)
noncomputable def c8 : Code := subC b [1, 1, 0, 1, 0, 0, 1, 0, 0, 1]
noncomputable def K18 (k n1 : Nat) : C := outD h c8 (K17 k n1)
noncomputable def K19 (k n1 : Nat) : C := seqC E h k c8 (K17 k n1)
noncomputable def c9 : Code := subC b [1, 1, 1, 1]
noncomputable def K20 (k : Nat) : C := outD h c9 (K5 k)
noncomputable def K21 (k : Nat) : C := seqC E h k c9 (K5 k)
abbrev T4 := (List UInt8) → Int → Int → Int → R
abbrev T2 := (List UInt8) → Int → Int → Int → R
abbrev T3 := Int → R
abbrev T1 := (List UInt8) → Int → Int → Int → R
abbrev T0 := (List UInt8) → Int → R
abbrev s4 : (List UInt8) → Int → Int → Int → ST cx := fun (x0 : List UInt8) (x1 x5 x6 : Int) => ({ vars := [(0, .v .str .ro x0), (1, .v (.int .i64) .ro x1), (5, .v (.int .i64) .ro x5), (6, .v (.int .i64) .ro x6)], scr := [], mems := [] } : ST cx)
noncomputable def u4 (k n1 : Nat) : T4 := fun (x0 : List UInt8) (x1 x5 x6 : Int) => uK (run E h k c7) (s4 x0 x1 x5 x6) (K15 k n1)
noncomputable abbrev l4 (k n1 : Nat) : T4 := fun (x0 : List UInt8) (x1 x5 x6 : Int) => cutK (run E h k c7) (s4 x0 x1 x5 x6) (K15 k n1)
abbrev s2 : (List UInt8) → Int → Int → Int → ST cx := fun (x0 : List UInt8) (x1 x5 x6 : Int) => ({ vars := [(0, .v .str .ro x0), (1, .v (.int .i64) .ro x1), (5, .v (.int .i64) .ro x5), (6, .v (.int .i64) .ro x6)], scr := [], mems := [] } : ST cx)
noncomputable def u2 (k n1 : Nat) : T2 := fun (x0 : List UInt8) (x1 x5 x6 : Int) => uK (run E h k c5) (s2 x0 x1 x5 x6) (K11 k n1)
noncomputable abbrev l2 (k n1 : Nat) : T2 := fun (x0 : List UInt8) (x1 x5 x6 : Int) => cutK (run E h k c5) (s2 x0 x1 x5 x6) (K11 k n1)
abbrev s3 : Int → ST cx := fun (x5 : Int) => ({ vars := [(5, .v (.int .i64) .ro x5)], scr := [], mems := [] } : ST cx)
noncomputable def u3 (k : Nat) : T3 := fun (x5 : Int) => uK (run E h k c2) (s3 x5) (K5 k)
noncomputable abbrev l3 (k : Nat) : T3 := fun (x5 : Int) => cutK (run E h k c2) (s3 x5) (K5 k)
abbrev s1 : (List UInt8) → Int → Int → Int → ST cx := fun (x0 : List UInt8) (x1 x5 x6 : Int) => ({ vars := [(0, .v .str .ro x0), (1, .v (.int .i64) .ro x1), (5, .v (.int .i64) .ro x5), (6, .v (.int .i64) .ro x6)], scr := [], mems := [] } : ST cx)
noncomputable def u1 (k n1 : Nat) : T1 := fun (x0 : List UInt8) (x1 x5 x6 : Int) => uK (loopL E h k c4 (K9 k) n1) (s1 x0 x1 x5 x6) ()
noncomputable abbrev l1 (k n1 : Nat) : T1 := fun (x0 : List UInt8) (x1 x5 x6 : Int) => cutK (loopL E h k c4 (K9 k) n1) (s1 x0 x1 x5 x6) ()
noncomputable def u0 (k : Nat) : T0 := fun (x0 : List UInt8) (x1 : Int) => runOf (S := cx) E h k Try.f96 [.val .str, .val (.int .i64)] (.int .i64) .ro (x0, x1, ())
def t4 (f1 : T1) : T4 := fun (x0 : List UInt8) (x1 x5 x6 : Int) => 
  (f1 x0 x1 x5 (w64 (x6 + (1 : Int))))
theorem e4 (k n1 : Nat) : u4 k n1 = t4 (l1 k n1) := by kernel_rfl
theorem g4 (k n1 : Nat) : l4 k n1 = u4 k n1 := funext fun _ => funext fun _ => funext fun _ => funext fun _ => cut_u _ _ _
theorem d4 {x1 y1 : T1} (h1 : x1 = y1) : t4 x1 = t4 y1 := by subst h1; rfl
def p4 (k : Nat) (a1 : T1) : T4 := t4 a1
theorem o4 (k n1 : Nat) (a1 : T1) (h1 : l1 k n1 = a1) : l4 k n1 = p4 k a1 := (Eq.trans (b := u4 k n1) (g4 k n1) (Eq.trans (b := t4 (l1 k n1)) (e4 k n1) (Eq.trans (b := t4 a1) (d4 h1) (by kernel_rfl))))
def t2 (f4 : T4) : T2 := fun (x0 : List UInt8) (x1 x5 x6 : Int) => 
  (withinR x6 (List.length x0) fun q1 => (iteB (decide ((byteAt x0 q1) = (10 : Int))) (f4 x0 x1 (w64 (x5 + (1 : Int))) x6) (f4 x0 x1 x5 x6)))
theorem e2 (k n1 : Nat) : u2 k n1 = t2 (l4 k n1) := by kernel_rfl
theorem g2 (k n1 : Nat) : l2 k n1 = u2 k n1 := funext fun _ => funext fun _ => funext fun _ => funext fun _ => cut_u _ _ _
theorem d2 {x4 y4 : T4} (h4 : x4 = y4) : t2 x4 = t2 y4 := by subst h4; rfl
def p2 (k : Nat) (a1 : T1) : T2 := t2 (p4 k a1)
theorem o2 (k n1 : Nat) (a1 : T1) (h1 : l1 k n1 = a1) : l2 k n1 = p2 k a1 := (Eq.trans (b := u2 k n1) (g2 k n1) (Eq.trans (b := t2 (l4 k n1)) (e2 k n1) (Eq.trans (b := t2 (p4 k a1)) (d2 (o4 k n1 a1 h1)) (by kernel_rfl))))
def t3 : T3 := fun (x5 : Int) => 
  (some (x5, ()))
theorem e3 (k : Nat) : u3 k = t3 := by kernel_rfl
theorem g3 (k : Nat) : l3 k = u3 k := funext fun _ => cut_u _ _ _
def p3 (k : Nat) : T3 := t3
theorem o3 (k : Nat) : l3 k = p3 k := (Eq.trans (b := u3 k) (g3 k) (Eq.trans (b := t3) (e3 k) (by kernel_rfl)))
def t1 (f2 : T2) (f3 : T3) : T1 := fun (x0 : List UInt8) (x1 x5 x6 : Int) => 
  (iteB (decide (x6 < ((List.length x0 : Nat) : Int))) (iteB (decide (x6 < x1)) (f2 x0 x1 x5 x6) (f3 x5)) (f3 x5))
theorem e1 (k n1 : Nat) : u1 k (n1 + 1) = t1 (l2 k n1) (l3 k) := by kernel_rfl
theorem g1 (k n1 : Nat) : l1 k (n1 + 1) = u1 k (n1 + 1) := funext fun _ => funext fun _ => funext fun _ => funext fun _ => cut_u _ _ _
theorem d1 {x2 y2 : T2} {x3 y3 : T3} (h2 : x2 = y2) (h3 : x3 = y3) : t1 x2 x3 = t1 y2 y3 := by subst h2; subst h3; rfl
def p1 (k : Nat) : Nat → T1
  | 0 => fun _ _ _ _ => none
  | n1 + 1 => t1 (p2 k (p1 k n1)) (p3 k)
theorem o1 (k : Nat) : ∀ n1, l1 k n1 = p1 k n1 := by
  intro n1
  induction n1 with
  | zero => kernel_rfl
  | succ n1 ih => exact (Eq.trans (b := u1 k (n1 + 1)) (g1 k n1) (Eq.trans (b := t1 (l2 k n1) (l3 k)) (e1 k n1) (Eq.trans (b := t1 (p2 k (p1 k n1)) (p3 k)) (d1 (o2 k n1 (p1 k n1) ih) (o3 k)) (by kernel_rfl))))
def t0 (f1 : T1) : T0 := fun (x0 : List UInt8) (x1 : Int) => 
  (f1 x0 x1 (0 : Int) (0 : Int))
theorem e0 (k : Nat) : u0 k = t0 (l1 k k) := by kernel_rfl
theorem d0 {x1 y1 : T1} (h1 : x1 = y1) : t0 x1 = t0 y1 := by subst h1; rfl
def p0 (k : Nat) : T0 := t0 (p1 k k)
theorem o0 (k : Nat) : u0 k = p0 k := (Eq.trans (b := t0 (l1 k k)) (e0 k) (Eq.trans (b := t0 (p1 k k)) (d0 (o1 k k)) (by kernel_rfl)))
end ref02_Lines
def s_ref02_Lines (a : (List UInt8) × ((Int) × (Unit))) : Option ((Int) × (Unit)) := ref02_Lines.p0 (fuel) a.1 a.2.1
noncomputable def F_ref02_Lines : FSpec cx.toNm := { ps := [.val .str, .val (.int .i64)], nres := 1, rt := (.int .i64), rm := .ro, f := s_ref02_Lines }
namespace rope_Rope_Signs
noncomputable def E : Env cx := { tys := tys, fs := fsOf [(122, F_rope_Rope_ahead)] }
abbrev R := Option ((Int) × (Unit))
abbrev C := Exit → ST cx → R
noncomputable def b : Code := bodyC Try.f97
noncomputable def h : Hint := { vs := [0, 1, 2, 4], nil := [], cuts := [], ret := ([4], [2]), ords := [] }
noncomputable def K0 : C := fin (S := cx) E Try.f97.results.toList (.int .i64) .ro [] []
noncomputable def c0 : Code := subC b [1]
noncomputable def K1 (k : Nat) : C := outD h c0 K0
noncomputable def K2 (k : Nat) : C := seqC E h k c0 K0
noncomputable def c1 : Code := subC b [1, 1]
noncomputable def K3 (k : Nat) : C := outD h c1 (K1 k)
noncomputable def K4 (k : Nat) : C := seqC E h k c1 (K1 k)
abbrev T0 := (Option N0) → Int → R
noncomputable def u0 (k : Nat) : T0 := fun (x0 : Option N0) (x1 : Int) => runOf (S := cx) E h k Try.f97 [.val (.agg (.ptr 0)), .val (.int .i64)] (.int .i64) .ro (x0, x1, ())
def t0 : T0 := fun (x0 : Option N0) (x1 : Int) => 
  (bindR (s_rope_Rope_ahead (x0, (x1, ()))) fun r1 => (some (r1.1.2.2.1, ())))
theorem e0 (k : Nat) : u0 k = t0 := by kernel_rfl
def p0 (k : Nat) : T0 := t0
theorem o0 (k : Nat) : u0 k = p0 k := (Eq.trans (b := t0) (e0 k) (by kernel_rfl))
end rope_Rope_Signs
def s_rope_Rope_Signs (a : (Option N0) × ((Int) × (Unit))) : Option ((Int) × (Unit)) := rope_Rope_Signs.p0 (fuel) a.1 a.2.1
noncomputable def F_rope_Rope_Signs : FSpec cx.toNm := { ps := [.val (.agg (.ptr 0)), .val (.int .i64)], nres := 1, rt := (.int .i64), rm := .ro, f := s_rope_Rope_Signs }
namespace ref01_Count
noncomputable def E : Env cx := { tys := tys, fs := fsOf [(103, F_ref01_Follower)] }
abbrev R := Option ((Int) × (Unit))
abbrev C := Exit → ST cx → R
noncomputable def b : Code := bodyC Try.f105
noncomputable def h : Hint := { vs := [0, 2, 3, 4], nil := [], cuts := [(3, ([0, 3, 4], []), ([3], [])), (4, ([0, 3, 4], []), ([0, 3, 4], [])), (7, ([3], []), ([3], []))], ret := ([2], []), ords := [] }
noncomputable def K0 : C := fin (S := cx) E Try.f105.results.toList (.int .i64) .ro [] []
noncomputable def c0 : Code := subC b [1]
noncomputable def K1 (k : Nat) : C := outD h c0 K0
noncomputable def K2 (k : Nat) : C := seqC E h k c0 K0
noncomputable def c1 : Code := subC b [1, 1]
noncomputable def K3 (k : Nat) : C := outD h c1 (K1 k)
noncomputable def K4 (k : Nat) : C := seqC E h k c1 (K1 k)
noncomputable def c2 : Code := subC b [1, 1, 1]
noncomputable def K5 (k : Nat) : C := outD h c2 (K3 k)
noncomputable def K6 (k : Nat) : C := seqC E h k c2 (K3 k)
noncomputable def c3 : Code := subC b [1, 1, 0, 1]
noncomputable def K7 (k : Nat) : C := outD h c3 (K6 k)
noncomputable def K8 (k : Nat) : C := seqC E h k c3 (K6 k)
noncomputable def K9 (k : Nat) : C := blockK 0 (K7 k)
noncomputable def c4 : Code := subC b [1, 1, 0, 1, 0, 0]
noncomputable def K10 (k n1 : Nat) : C := loopD E h k c4 (K9 k) n1
noncomputable def c5 : Code := subC b [1, 1, 0, 1, 0, 0, 1]
noncomputable def K11 (k n1 : Nat) : C := outD h c5 (K10 k n1)
noncomputable def K12 (k n1 : Nat) : C := seqC E h k c5 (K10 k n1)
noncomputable def c6 : Code := subC b [1, 1, 0, 1, 0, 0, 0, 1]
noncomputable def K13 (k n1 : Nat) : C := outD h c6 (K12 k n1)
noncomputable def K14 (k n1 : Nat) : C := seqC E h k c6 (K12 k n1)
noncomputable def c7 : Code := subC b [1, 1, 0, 1, 0, 0, 1, 1]
noncomputable def K15 (k n1 : Nat) : C := outD h c7 (K11 k n1)
noncomputable def K16 (k n1 : Nat) : C := seqC E h k c7 (K11 k n1)
noncomputable def K17 (k n1 : Nat) : C := blockK 1 (K16 k n1)
noncomputable def c8 : Code := subC b [1, 1, 0, 1, 0, 0, 1, 0, 0, 1]
noncomputable def K18 (k n1 : Nat) : C := outD h c8 (K17 k n1)
noncomputable def K19 (k n1 : Nat) : C := seqC E h k c8 (K17 k n1)
noncomputable def c9 : Code := subC b [1, 1, 1, 1]
noncomputable def K20 (k : Nat) : C := outD h c9 (K5 k)
noncomputable def K21 (k : Nat) : C := seqC E h k c9 (K5 k)
abbrev T2 := (List UInt8) → Int → Int → R
abbrev T3 := Int → R
abbrev T1 := (List UInt8) → Int → Int → R
abbrev T0 := (List UInt8) → R
abbrev s2 : (List UInt8) → Int → Int → ST cx := fun (x0 : List UInt8) (x3 x4 : Int) => ({ vars := [(0, .v .str .ro x0), (3, .v (.int .i64) .ro x3), (4, .v (.int .i64) .ro x4)], scr := [], mems := [] } : ST cx)
noncomputable def u2 (k n1 : Nat) : T2 := fun (x0 : List UInt8) (x3 x4 : Int) => uK (run E h k c7) (s2 x0 x3 x4) (K15 k n1)
noncomputable abbrev l2 (k n1 : Nat) : T2 := fun (x0 : List UInt8) (x3 x4 : Int) => cutK (run E h k c7) (s2 x0 x3 x4) (K15 k n1)
abbrev s3 : Int → ST cx := fun (x3 : Int) => ({ vars := [(3, .v (.int .i64) .ro x3)], scr := [], mems := [] } : ST cx)
noncomputable def u3 (k : Nat) : T3 := fun (x3 : Int) => uK (run E h k c2) (s3 x3) (K5 k)
noncomputable abbrev l3 (k : Nat) : T3 := fun (x3 : Int) => cutK (run E h k c2) (s3 x3) (K5 k)
abbrev s1 : (List UInt8) → Int → Int → ST cx := fun (x0 : List UInt8) (x3 x4 : Int) => ({ vars := [(0, .v .str .ro x0), (3, .v (.int .i64) .ro x3), (4, .v (.int .i64) .ro x4)], scr := [], mems := [] } : ST cx)
noncomputable def u1 (k n1 : Nat) : T1 := fun (x0 : List UInt8) (x3 x4 : Int) => uK (loopL E h k c4 (K9 k) n1) (s1 x0 x3 x4) ()
noncomputable abbrev l1 (k n1 : Nat) : T1 := fun (x0 : List UInt8) (x3 x4 : Int) => cutK (loopL E h k c4 (K9 k) n1) (s1 x0 x3 x4) ()
noncomputable def u0 (k : Nat) : T0 := fun (x0 : List UInt8) => runOf (S := cx) E h k Try.f105 [.val .str] (.int .i64) .ro (x0, ())
def t2 (f1 : T1) : T2 := fun (x0 : List UInt8) (x3 x4 : Int) => 
  (f1 x0 x3 (w64 (x4 + (1 : Int))))
theorem e2 (k n1 : Nat) : u2 k n1 = t2 (l1 k n1) := by kernel_rfl
theorem g2 (k n1 : Nat) : l2 k n1 = u2 k n1 := funext fun _ => funext fun _ => funext fun _ => cut_u _ _ _
theorem d2 {x1 y1 : T1} (h1 : x1 = y1) : t2 x1 = t2 y1 := by subst h1; rfl
def p2 (k : Nat) (a1 : T1) : T2 := t2 a1
theorem o2 (k n1 : Nat) (a1 : T1) (h1 : l1 k n1 = a1) : l2 k n1 = p2 k a1 := (Eq.trans (b := u2 k n1) (g2 k n1) (Eq.trans (b := t2 (l1 k n1)) (e2 k n1) (Eq.trans (b := t2 a1) (d2 h1) (by kernel_rfl))))
def t3 : T3 := fun (x3 : Int) => 
  (some (x3, ()))
theorem e3 (k : Nat) : u3 k = t3 := by kernel_rfl
theorem g3 (k : Nat) : l3 k = u3 k := funext fun _ => cut_u _ _ _
def p3 (k : Nat) : T3 := t3
theorem o3 (k : Nat) : l3 k = p3 k := (Eq.trans (b := u3 k) (g3 k) (Eq.trans (b := t3) (e3 k) (by kernel_rfl)))
def t1 (f2 : T2) (f3 : T3) : T1 := fun (x0 : List UInt8) (x3 x4 : Int) => 
  (iteB (decide (x4 < ((List.length x0 : Nat) : Int))) (withinR x4 (List.length x0) fun q1 => (bindR (s_ref01_Follower ((byteAt x0 q1), ())) fun r2 => (iteB (notB r2.1) (f2 x0 (w64 (x3 + (1 : Int))) x4) (f2 x0 x3 x4)))) (f3 x3))
theorem e1 (k n1 : Nat) : u1 k (n1 + 1) = t1 (l2 k n1) (l3 k) := by kernel_rfl
theorem g1 (k n1 : Nat) : l1 k (n1 + 1) = u1 k (n1 + 1) := funext fun _ => funext fun _ => funext fun _ => cut_u _ _ _
theorem d1 {x2 y2 : T2} {x3 y3 : T3} (h2 : x2 = y2) (h3 : x3 = y3) : t1 x2 x3 = t1 y2 y3 := by subst h2; subst h3; rfl
def p1 (k : Nat) : Nat → T1
  | 0 => fun _ _ _ => none
  | n1 + 1 => t1 (p2 k (p1 k n1)) (p3 k)
theorem o1 (k : Nat) : ∀ n1, l1 k n1 = p1 k n1 := by
  intro n1
  induction n1 with
  | zero => kernel_rfl
  | succ n1 ih => exact (Eq.trans (b := u1 k (n1 + 1)) (g1 k n1) (Eq.trans (b := t1 (l2 k n1) (l3 k)) (e1 k n1) (Eq.trans (b := t1 (p2 k (p1 k n1)) (p3 k)) (d1 (o2 k n1 (p1 k n1) ih) (o3 k)) (by kernel_rfl))))
def t0 (f1 : T1) : T0 := fun (x0 : List UInt8) => 
  (f1 x0 (0 : Int) (0 : Int))
theorem e0 (k : Nat) : u0 k = t0 (l1 k k) := by kernel_rfl
theorem d0 {x1 y1 : T1} (h1 : x1 = y1) : t0 x1 = t0 y1 := by subst h1; rfl
def p0 (k : Nat) : T0 := t0 (p1 k k)
theorem o0 (k : Nat) : u0 k = p0 k := (Eq.trans (b := t0 (l1 k k)) (e0 k) (Eq.trans (b := t0 (p1 k k)) (d0 (o1 k k)) (by kernel_rfl)))
end ref01_Count
def s_ref01_Count (a : (List UInt8) × (Unit)) : Option ((Int) × (Unit)) := ref01_Count.p0 (fuel) a.1
noncomputable def F_ref01_Count : FSpec cx.toNm := { ps := [.val .str], nres := 1, rt := (.int .i64), rm := .ro, f := s_ref01_Count }
namespace ref02_Signs
noncomputable def E : Env cx := { tys := tys, fs := fsOf [(105, F_ref01_Count)] }
abbrev R := Option ((Int) × (Unit))
abbrev C := Exit → ST cx → R
noncomputable def b : Code := bodyC Try.f98
noncomputable def h : Hint := { vs := [0, 1, 4], nil := [], cuts := [(5, ([0, 1], []), ([0, 1], []))], ret := ([4], []), ords := [] }
noncomputable def K0 : C := fin (S := cx) E Try.f98.results.toList (.int .i64) .ro [] []
noncomputable def c0 : Code := subC b [1]
noncomputable def K1 (k : Nat) : C := outD h c0 K0
noncomputable def K2 (k : Nat) : C := seqC E h k c0 K0
noncomputable def c1 : Code := subC b [1, 1]
noncomputable def K3 (k : Nat) : C := outD h c1 (K1 k)
noncomputable def K4 (k : Nat) : C := seqC E h k c1 (K1 k)
noncomputable def c2 : Code := subC b [1, 0, 1]
noncomputable def K5 (k : Nat) : C := outD h c2 (K4 k)
noncomputable def K6 (k : Nat) : C := seqC E h k c2 (K4 k)
noncomputable def c3 : Code := subC b [1, 0, 1, 0, 1]
noncomputable def K7 (k : Nat) : C := outD h c3 (K5 k)
noncomputable def K8 (k : Nat) : C := seqC E h k c3 (K5 k)
noncomputable def c4 : Code := subC b [1, 1, 1]
noncomputable def K9 (k : Nat) : C := outD h c4 (K3 k)
noncomputable def K10 (k : Nat) : C := seqC E h k c4 (K3 k)
noncomputable def c5 : Code := subC b [1, 1, 0, 1]
noncomputable def K11 (k : Nat) : C := outD h c5 (K10 k)
noncomputable def K12 (k : Nat) : C := seqC E h k c5 (K10 k)
noncomputable def c6 : Code := subC b [1, 1, 1, 1]
noncomputable def K13 (k : Nat) : C := outD h c6 (K9 k)
noncomputable def K14 (k : Nat) : C := seqC E h k c6 (K9 k)
abbrev T1 := (List UInt8) → Int → R
abbrev T0 := (List UInt8) → Int → R
abbrev s1 : (List UInt8) → Int → ST cx := fun (x0 : List UInt8) (x1 : Int) => ({ vars := [(0, .v .str .ro x0), (1, .v (.int .i64) .ro x1)], scr := [], mems := [] } : ST cx)
noncomputable def u1 (k : Nat) : T1 := fun (x0 : List UInt8) (x1 : Int) => uK (run E h k c4) (s1 x0 x1) (K9 k)
noncomputable abbrev l1 (k : Nat) : T1 := fun (x0 : List UInt8) (x1 : Int) => cutK (run E h k c4) (s1 x0 x1) (K9 k)
noncomputable def u0 (k : Nat) : T0 := fun (x0 : List UInt8) (x1 : Int) => runOf (S := cx) E h k Try.f98 [.val .str, .val (.int .i64)] (.int .i64) .ro (x0, x1, ())
def t1 : T1 := fun (x0 : List UInt8) (x1 : Int) => 
  (mustR (decide (0 ≤ x1)) (mustR (decide (x1 ≤ (((List.length x0) : Nat) : Int))) (bindR (s_ref01_Count ((List.drop 0 (List.take (Int.toNat x1) x0)), ())) fun r1 => (some (r1.1, ())))))
theorem e1 (k : Nat) : u1 k = t1 := by kernel_rfl
theorem g1 (k : Nat) : l1 k = u1 k := funext fun _ => funext fun _ => cut_u _ _ _
def p1 (k : Nat) : T1 := t1
theorem o1 (k : Nat) : l1 k = p1 k := (Eq.trans (b := u1 k) (g1 k) (Eq.trans (b := t1) (e1 k) (by kernel_rfl)))
def t0 (f1 : T1) : T0 := fun (x0 : List UInt8) (x1 : Int) => 
  (iteB (decide (x1 < (0 : Int))) (some ((0 : Int), ())) (iteB (decide (((List.length x0 : Nat) : Int) < x1)) (f1 x0 ((List.length x0 : Nat) : Int)) (f1 x0 x1)))
theorem e0 (k : Nat) : u0 k = t0 (l1 k) := by kernel_rfl
theorem d0 {x1 y1 : T1} (h1 : x1 = y1) : t0 x1 = t0 y1 := by subst h1; rfl
def p0 (k : Nat) : T0 := t0 (p1 k)
theorem o0 (k : Nat) : u0 k = p0 k := (Eq.trans (b := t0 (l1 k)) (e0 k) (Eq.trans (b := t0 (p1 k)) (d0 (o1 k)) (by kernel_rfl)))
end ref02_Signs
def s_ref02_Signs (a : (List UInt8) × ((Int) × (Unit))) : Option ((Int) × (Unit)) := ref02_Signs.p0 (fuel) a.1 a.2.1
noncomputable def F_ref02_Signs : FSpec cx.toNm := { ps := [.val .str, .val (.int .i64)], nres := 1, rt := (.int .i64), rm := .ro, f := s_ref02_Signs }
namespace law02_same
noncomputable def E : Env cx := { tys := tys, fs := fsOf [(37, F_rope_Rope_Height), (38, F_ref02_Bound), (39, F_Text), (45, F_rope_Rope_Len), (85, F_rope_Rope_Line), (86, F_rope_Rope_Lines), (94, F_rope_Rope_At), (95, F_ref02_Line), (96, F_ref02_Lines), (97, F_rope_Rope_Signs), (98, F_ref02_Signs)] }
abbrev R := Option ((Bool) × (Unit))
abbrev C := Exit → ST cx → R
noncomputable def b : Code := bodyC Try.f46
noncomputable def h : Hint := { vs := [0, 1, 2, 3, 6, 7, 8, 9, 10, 11], nil := [], cuts := [(3, ([1, 2, 3, 45], [3]), ([1, 2, 3], [3])), (4, ([1, 2, 3], [3]), ([1, 2, 3], [3])), (8, ([1, 2, 3, 9, 10, 11], [3]), ([1, 2, 3, 9, 10, 11], [3])), (9, ([1, 2, 3, 76], [3]), ([1, 2, 3], [3])), (10, ([1, 2, 3], [3]), ([1, 2, 3], [3]))], ret := ([6], [3]), ords := [] }
noncomputable def K0 : C := fin (S := cx) E Try.f46.results.toList .bool .ro [] []
noncomputable def c0 : Code := subC b [1]
noncomputable def K1 (k : Nat) : C := outD h c0 K0
noncomputable def K2 (k : Nat) : C := seqC E h k c0 K0
noncomputable def c1 : Code := subC b [1, 1]
noncomputable def K3 (k : Nat) : C := outD h c1 (K1 k)
noncomputable def K4 (k : Nat) : C := seqC E h k c1 (K1 k)
noncomputable def c2 : Code := subC b [1, 1, 1]
noncomputable def K5 (k : Nat) : C := outD h c2 (K3 k)
noncomputable def K6 (k : Nat) : C := seqC E h k c2 (K3 k)
noncomputable def c3 : Code := subC b [1, 1, 0, 1]
noncomputable def K7 (k : Nat) : C := outD h c3 (K6 k)
noncomputable def K8 (k : Nat) : C := seqC E h k c3 (K6 k)
noncomputable def c4 : Code := subC b [1, 1, 0, 1, 0, 1]
noncomputable def K9 (k : Nat) : C := outD h c4 (K7 k)
noncomputable def K10 (k : Nat) : C := seqC E h k c4 (K7 k)
noncomputable def c5 : Code := subC b [1, 1, 1, 1]
noncomputable def K11 (k : Nat) : C := outD h c5 (K5 k)
noncomputable def K12 (k : Nat) : C := seqC E h k c5 (K5 k)
noncomputable def c6 : Code := subC b [1, 1, 1, 1, 1]
noncomputable def K13 (k : Nat) : C := outD h c6 (K11 k)
noncomputable def K14 (k : Nat) : C := seqC E h k c6 (K11 k)
noncomputable def c7 : Code := subC b [1, 1, 1, 1, 1, 1]
noncomputable def K15 (k : Nat) : C := outD h c7 (K13 k)
noncomputable def K16 (k : Nat) : C := seqC E h k c7 (K13 k)
noncomputable def c8 : Code := subC b [1, 1, 1, 1, 1, 0, 1]
noncomputable def K17 (k : Nat) : C := outD h c8 (K16 k)
noncomputable def K18 (k : Nat) : C := seqC E h k c8 (K16 k)
noncomputable def c9 : Code := subC b [1, 1, 1, 1, 1, 1, 1]
noncomputable def K19 (k : Nat) : C := outD h c9 (K15 k)
noncomputable def K20 (k : Nat) : C := seqC E h k c9 (K15 k)
noncomputable def c10 : Code := subC b [1, 1, 1, 1, 1, 1, 0, 1]
noncomputable def K21 (k : Nat) : C := outD h c10 (K20 k)
noncomputable def K22 (k : Nat) : C := seqC E h k c10 (K20 k)
noncomputable def c11 : Code := subC b [1, 1, 1, 1, 1, 1, 0, 1, 0, 1]
noncomputable def K23 (k : Nat) : C := outD h c11 (K21 k)
noncomputable def K24 (k : Nat) : C := seqC E h k c11 (K21 k)
noncomputable def c12 : Code := subC b [1, 1, 1, 1, 1, 1, 1, 1]
noncomputable def K25 (k : Nat) : C := outD h c12 (K19 k)
noncomputable def K26 (k : Nat) : C := seqC E h k c12 (K19 k)
abbrev T5 := (List UInt8) → Int → (Option N0) → R
abbrev T4 := (List UInt8) → Int → Bool → (Option N0) → R
abbrev T3 := (List UInt8) → Int → Int → Bool → Int → (Option N0) → R
abbrev T2 := (List UInt8) → Int → (Option N0) → R
abbrev T1 := (List UInt8) → Int → Bool → (Option N0) → R
abbrev T0 := (Option N0) → (List UInt8) → Int → R
abbrev s5 : (List UInt8) → Int → (Option N0) → ST cx := fun (x1 : List UInt8) (x2 : Int) (m3 : Option N0) => ({ vars := [(1, .v .str .ro x1), (2, .v (.int .i64) .ro x2), (3, .addr (.mem 3) [])], scr := [], mems := [(3, ⟨(.agg (.ptr 0)), .ro, m3⟩)] } : ST cx)
noncomputable def u5 (k : Nat) : T5 := fun (x1 : List UInt8) (x2 : Int) (m3 : Option N0) => uK (run E h k c9) (s5 x1 x2 m3) (K19 k)
noncomputable abbrev l5 (k : Nat) : T5 := fun (x1 : List UInt8) (x2 : Int) (m3 : Option N0) => cutK (run E h k c9) (s5 x1 x2 m3) (K19 k)
abbrev s4 : (List UInt8) → Int → Bool → (Option N0) → ST cx := fun (x1 : List UInt8) (x2 : Int) (x76 : Bool) (m3 : Option N0) => ({ vars := [(1, .v .str .ro x1), (2, .v (.int .i64) .ro x2), (3, .addr (.mem 3) []), (76, .v .bool .ro x76)], scr := [], mems := [(3, ⟨(.agg (.ptr 0)), .ro, m3⟩)] } : ST cx)
noncomputable def u4 (k : Nat) : T4 := fun (x1 : List UInt8) (x2 : Int) (x76 : Bool) (m3 : Option N0) => uK (run E h k c10) (s4 x1 x2 x76 m3) (K21 k)
noncomputable abbrev l4 (k : Nat) : T4 := fun (x1 : List UInt8) (x2 : Int) (x76 : Bool) (m3 : Option N0) => cutK (run E h k c10) (s4 x1 x2 x76 m3) (K21 k)
abbrev s3 : (List UInt8) → Int → Int → Bool → Int → (Option N0) → ST cx := fun (x1 : List UInt8) (x2 x9 : Int) (x10 : Bool) (x11 : Int) (m3 : Option N0) => ({ vars := [(1, .v .str .ro x1), (2, .v (.int .i64) .ro x2), (3, .addr (.mem 3) []), (9, .v (.int .i64) .ro x9), (10, .v .bool .ro x10), (11, .v (.int .i64) .ro x11)], scr := [], mems := [(3, ⟨(.agg (.ptr 0)), .ro, m3⟩)] } : ST cx)
noncomputable def u3 (k : Nat) : T3 := fun (x1 : List UInt8) (x2 x9 : Int) (x10 : Bool) (x11 : Int) (m3 : Option N0) => uK (run E h k c7) (s3 x1 x2 x9 x10 x11 m3) (K15 k)
noncomputable abbrev l3 (k : Nat) : T3 := fun (x1 : List UInt8) (x2 x9 : Int) (x10 : Bool) (x11 : Int) (m3 : Option N0) => cutK (run E h k c7) (s3 x1 x2 x9 x10 x11 m3) (K15 k)
abbrev s2 : (List UInt8) → Int → (Option N0) → ST cx := fun (x1 : List UInt8) (x2 : Int) (m3 : Option N0) => ({ vars := [(1, .v .str .ro x1), (2, .v (.int .i64) .ro x2), (3, .addr (.mem 3) [])], scr := [], mems := [(3, ⟨(.agg (.ptr 0)), .ro, m3⟩)] } : ST cx)
noncomputable def u2 (k : Nat) : T2 := fun (x1 : List UInt8) (x2 : Int) (m3 : Option N0) => uK (run E h k c2) (s2 x1 x2 m3) (K5 k)
noncomputable abbrev l2 (k : Nat) : T2 := fun (x1 : List UInt8) (x2 : Int) (m3 : Option N0) => cutK (run E h k c2) (s2 x1 x2 m3) (K5 k)
abbrev s1 : (List UInt8) → Int → Bool → (Option N0) → ST cx := fun (x1 : List UInt8) (x2 : Int) (x45 : Bool) (m3 : Option N0) => ({ vars := [(1, .v .str .ro x1), (2, .v (.int .i64) .ro x2), (3, .addr (.mem 3) []), (45, .v .bool .ro x45)], scr := [], mems := [(3, ⟨(.agg (.ptr 0)), .ro, m3⟩)] } : ST cx)
noncomputable def u1 (k : Nat) : T1 := fun (x1 : List UInt8) (x2 : Int) (x45 : Bool) (m3 : Option N0) => uK (run E h k c3) (s1 x1 x2 x45 m3) (K7 k)
noncomputable abbrev l1 (k : Nat) : T1 := fun (x1 : List UInt8) (x2 : Int) (x45 : Bool) (m3 : Option N0) => cutK (run E h k c3) (s1 x1 x2 x45 m3) (K7 k)
noncomputable def u0 (k : Nat) : T0 := fun (x0 : Option N0) (x1 : List UInt8) (x2 : Int) => runOf (S := cx) E h k Try.f46 [.val (.agg (.ptr 0)), .val .str, .val (.int .i64)] .bool .ro (x0, x1, x2, ())
def t5 : T5 := fun (x1 : List UInt8) (x2 : Int) (m3 : Option N0) => 
  (bindR (s_Text (m3, ())) fun r6 => (iteB (decide (r6.1 = x1)) (bindR (s_rope_Rope_Len (m3, ())) fun r7 => (iteB (decide (r7.1 = ((List.length x1 : Nat) : Int))) (bindR (s_rope_Rope_Lines (m3, (x2, ()))) fun r8 => (bindR (s_ref02_Lines (x1, (x2, ()))) fun r9 => (iteB (decide (r8.1 = r9.1)) (bindR (s_rope_Rope_Signs (m3, (x2, ()))) fun r10 => (bindR (s_ref02_Signs (x1, (x2, ()))) fun r11 => (iteB (decide (r10.1 = r11.1)) (bindR (s_rope_Rope_Height (m3, ())) fun r12 => (bindR (s_ref02_Bound (((List.length x1 : Nat) : Int), ())) fun r13 => (some ((decide (r12.1 ≤ r13.1)), ())))) (some (false, ()))))) (some (false, ()))))) (some (false, ())))) (some (false, ()))))
theorem e5 (k : Nat) : u5 k = t5 := by kernel_rfl
theorem g5 (k : Nat) : l5 k = u5 k := funext fun _ => funext fun _ => funext fun _ => cut_u _ _ _
def p5 (k : Nat) : T5 := t5
theorem o5 (k : Nat) : l5 k = p5 k := (Eq.trans (b := u5 k) (g5 k) (Eq.trans (b := t5) (e5 k) (by kernel_rfl)))
def t4 (f5 : T5) : T4 := fun (x1 : List UInt8) (x2 : Int) (x76 : Bool) (m3 : Option N0) => 
  (iteB x76 (some (false, ())) (f5 x1 x2 m3))
theorem e4 (k : Nat) : u4 k = t4 (l5 k) := by kernel_rfl
theorem g4 (k : Nat) : l4 k = u4 k := funext fun _ => funext fun _ => funext fun _ => funext fun _ => cut_u _ _ _
theorem d4 {x5 y5 : T5} (h5 : x5 = y5) : t4 x5 = t4 y5 := by subst h5; rfl
def p4 (k : Nat) : T4 := t4 (p5 k)
theorem o4 (k : Nat) : l4 k = p4 k := (Eq.trans (b := u4 k) (g4 k) (Eq.trans (b := t4 (l5 k)) (e4 k) (Eq.trans (b := t4 (p5 k)) (d4 (o5 k)) (by kernel_rfl))))
def t3 (f4 : T4) : T3 := fun (x1 : List UInt8) (x2 x9 : Int) (x10 : Bool) (x11 : Int) (m3 : Option N0) => 
  (iteB (!(x10 == (decide ((0 : Int) ≤ x11)))) (f4 x1 x2 true m3) (iteB x10 (iteB (!decide (x9 = x11)) (f4 x1 x2 true m3) (iteB (notB x10) (f4 x1 x2 (!decide (x9 = (0 : Int))) m3) (f4 x1 x2 false m3))) (iteB (notB x10) (f4 x1 x2 (!decide (x9 = (0 : Int))) m3) (f4 x1 x2 false m3))))
theorem e3 (k : Nat) : u3 k = t3 (l4 k) := by kernel_rfl
theorem g3 (k : Nat) : l3 k = u3 k := funext fun _ => funext fun _ => funext fun _ => funext fun _ => funext fun _ => funext fun _ => cut_u _ _ _
theorem d3 {x4 y4 : T4} (h4 : x4 = y4) : t3 x4 = t3 y4 := by subst h4; rfl
def p3 (k : Nat) : T3 := t3 (p4 k)
theorem o3 (k : Nat) : l3 k = p3 k := (Eq.trans (b := u3 k) (g3 k) (Eq.trans (b := t3 (l4 k)) (e3 k) (Eq.trans (b := t3 (p4 k)) (d3 (o4 k)) (by kernel_rfl))))
def t2 (f3 : T3) : T2 := fun (x1 : List UInt8) (x2 : Int) (m3 : Option N0) => 
  (bindR (s_rope_Rope_Line (m3, (x2, ()))) fun r4 => (iteB (decide ((0 : Int) ≤ x2)) (bindR (s_ref02_Line (x1, (x2, ()))) fun r5 => (f3 x1 x2 r4.1.1 r4.1.2 r5.1 m3)) (f3 x1 x2 r4.1.1 r4.1.2 (-1 : Int) m3)))
theorem e2 (k : Nat) : u2 k = t2 (l3 k) := by kernel_rfl
theorem g2 (k : Nat) : l2 k = u2 k := funext fun _ => funext fun _ => funext fun _ => cut_u _ _ _
theorem d2 {x3 y3 : T3} (h3 : x3 = y3) : t2 x3 = t2 y3 := by subst h3; rfl
def p2 (k : Nat) : T2 := t2 (p3 k)
theorem o2 (k : Nat) : l2 k = p2 k := (Eq.trans (b := u2 k) (g2 k) (Eq.trans (b := t2 (l3 k)) (e2 k) (Eq.trans (b := t2 (p3 k)) (d2 (o3 k)) (by kernel_rfl))))
def t1 (f2 : T2) : T1 := fun (x1 : List UInt8) (x2 : Int) (x45 : Bool) (m3 : Option N0) => 
  (iteB x45 (some (false, ())) (f2 x1 x2 m3))
theorem e1 (k : Nat) : u1 k = t1 (l2 k) := by kernel_rfl
theorem g1 (k : Nat) : l1 k = u1 k := funext fun _ => funext fun _ => funext fun _ => funext fun _ => cut_u _ _ _
theorem d1 {x2 y2 : T2} (h2 : x2 = y2) : t1 x2 = t1 y2 := by subst h2; rfl
def p1 (k : Nat) : T1 := t1 (p2 k)
theorem o1 (k : Nat) : l1 k = p1 k := (Eq.trans (b := u1 k) (g1 k) (Eq.trans (b := t1 (l2 k)) (e1 k) (Eq.trans (b := t1 (p2 k)) (d1 (o2 k)) (by kernel_rfl))))
def t0 (f1 : T1) : T0 := fun (x0 : Option N0) (x1 : List UInt8) (x2 : Int) => 
  (bindR (s_rope_Rope_At (x0, (x2, ()))) fun r1 => (iteB (decide ((0 : Int) ≤ x2)) (iteB (!(r1.1.2 == (decide (x2 < ((List.length x1 : Nat) : Int))))) (f1 x1 x2 true x0) (iteB r1.1.2 (withinR x2 (List.length x1) fun q2 => (iteB (!decide (r1.1.1 = (byteAt x1 q2))) (f1 x1 x2 true x0) (iteB (notB r1.1.2) (f1 x1 x2 (!decide (r1.1.1 = (0 : Int))) x0) (f1 x1 x2 false x0)))) (iteB (notB r1.1.2) (f1 x1 x2 (!decide (r1.1.1 = (0 : Int))) x0) (f1 x1 x2 false x0)))) (iteB (!(r1.1.2 == false)) (f1 x1 x2 true x0) (iteB r1.1.2 (withinR x2 (List.length x1) fun q3 => (iteB (!decide (r1.1.1 = (byteAt x1 q3))) (f1 x1 x2 true x0) (iteB (notB r1.1.2) (f1 x1 x2 (!decide (r1.1.1 = (0 : Int))) x0) (f1 x1 x2 false x0)))) (iteB (notB r1.1.2) (f1 x1 x2 (!decide (r1.1.1 = (0 : Int))) x0) (f1 x1 x2 false x0))))))
theorem e0 (k : Nat) : u0 k = t0 (l1 k) := by kernel_rfl
theorem d0 {x1 y1 : T1} (h1 : x1 = y1) : t0 x1 = t0 y1 := by subst h1; rfl
def p0 (k : Nat) : T0 := t0 (p1 k)
theorem o0 (k : Nat) : u0 k = p0 k := (Eq.trans (b := t0 (l1 k)) (e0 k) (Eq.trans (b := t0 (p1 k)) (d0 (o1 k)) (by kernel_rfl)))
end law02_same
def s_law02_same (a : (Option N0) × ((List UInt8) × ((Int) × (Unit)))) : Option ((Bool) × (Unit)) := law02_same.p0 (fuel) a.1 a.2.1 a.2.2.1
noncomputable def F_law02_same : FSpec cx.toNm := { ps := [.val (.agg (.ptr 0)), .val .str, .val (.int .i64)], nres := 1, rt := .bool, rm := .ro, f := s_law02_same }
namespace law02_RopePlays
noncomputable def E : Env cx := { tys := tys, fs := fsOf [(35, F_law02_alive), (36, F_rope_Rope_Put), (39, F_Text), (40, F_rope_Of), (41, F_rope_Rope_Take), (42, F_ref02_Span), (43, F_rope_Rope_Split), (44, F_rope_Join), (45, F_rope_Rope_Len), (46, F_law02_same)] }
abbrev R := Option ((Bool) × (Unit))
abbrev C := Exit → ST cx → R
noncomputable def b : Code := bodyC Try.f7
noncomputable def h : Hint := { vs := [0, 1, 4, 5, 6, 7, 8, 9, 10, 11, 12, 13, 14, 15, 16, 17, 18, 19, 68], nil := [(7, (.own .ro)), (8, (.own .ro))], cuts := [(10, ([1, 5, 7, 8, 9], [5]), ([7, 8], [])), (11, ([1, 5, 7, 8, 9], [5]), ([1, 5, 7, 8, 9], [5])), (12, ([1, 5, 7, 8, 9], [5]), ([1, 5, 7, 8, 9], [5])), (38, ([1, 5, 7, 8, 9, 10, 12, 13, 14, 15, 16, 17, 162], [5, 10, 12, 15, 16]), ([1, 5, 7, 8, 9, 10, 12, 13, 14, 15, 16, 17], [5, 10, 12, 15, 16])), (39, ([1, 5, 7, 8, 9, 10, 12, 13, 14, 15, 16, 17], [5, 10, 12, 15, 16]), ([1, 5, 6, 7, 8, 9, 10, 12, 13, 14], [5, 10, 12])), (44, ([1, 5, 7, 8, 9, 10, 12, 13, 14, 181], [5, 10, 12]), ([1, 5, 7, 8, 9, 10, 12, 13, 14], [5, 10, 12])), (45, ([1, 5, 7, 8, 9, 10, 12, 13, 14], [5, 10, 12]), ([1, 5, 6, 7, 8, 9, 10, 12, 13, 14], [5, 10, 12])), (50, ([1, 5, 6, 7, 8, 9, 10, 12, 13, 14], [5, 10, 12]), ([1, 5, 7, 8, 9], [5])), (52, ([1, 5, 6, 7, 8, 9, 10, 12, 13, 14], [5, 10, 12]), ([1, 5, 7, 8, 9], [5])), (53, ([1, 5, 7, 8, 9, 10, 12, 13, 14, 223], [5, 10, 12]), ([1, 5, 7, 8, 9, 10, 12, 13, 14], [5, 10, 12])), (54, ([1, 5, 7, 8, 9, 10, 12, 13, 14], [5, 10, 12]), ([1, 5, 7, 8, 9], [5])), (56, ([1, 5, 7, 8, 9, 12, 14, 239], [5, 12]), ([1, 5, 7, 8, 9, 12, 14], [5, 12])), (57, ([1, 5, 7, 8, 9, 12, 14], [5, 12]), ([1, 5, 7, 8, 9], [5])), (59, ([7, 8], []), ([7, 8], [])), (60, ([7, 8, 19], []), ([], [])), (64, ([], []), ([], []))], ret := ([4], [5, 10, 12, 15, 16]), ords := [(37, [0, 2, 3, 4, 5, 1, 6, 7, 8, 10, 11, 12, 13, 9, 14, 15]), (62, [0, 1, 2, 3, 5, 6, 7, 8, 4, 9])] }
noncomputable def K0 : C := fin (S := cx) E Try.f7.results.toList .bool .ro [] []
noncomputable def c0 : Code := subC b [1]
noncomputable def K1 (k : Nat) : C := outD h c0 K0
noncomputable def K2 (k : Nat) : C := seqC E h k c0 K0
noncomputable def c1 : Code := subC b [1, 1]
noncomputable def K3 (k : Nat) : C := outD h c1 (K1 k)
noncomputable def K4 (k : Nat) : C := seqC E h k c1 (K1 k)
noncomputable def c2 : Code := subC b [1, 0, 1]
noncomputable def K5 (k : Nat) : C := outD h c2 (K4 k)
noncomputable def K6 (k : Nat) : C := seqC E h k c2 (K4 k)
noncomputable def c3 : Code := subC b [1, 0, 1, 0, 1]
noncomputable def K7 (k : Nat) : C := outD h c3 (K5 k)
noncomputable def K8 (k : Nat) : C := seqC E h k c3 (K5 k)
noncomputable def c4 : Code := subC b [1, 1, 1]
noncomputable def K9 (k : Nat) : C := outD h c4 (K3 k)
noncomputable def K10 (k : Nat) : C := seqC E h k c4 (K3 k)
noncomputable def c5 : Code := subC b [1, 1, 0, 1]
noncomputable def K11 (k : Nat) : C := outD h c5 (K10 k)
noncomputable def K12 (k : Nat) : C := seqC E h k c5 (K10 k)
noncomputable def c6 : Code := subC b [1, 1, 0, 1, 0, 1]
noncomputable def K13 (k : Nat) : C := outD h c6 (K11 k)
noncomputable def K14 (k : Nat) : C := seqC E h k c6 (K11 k)
noncomputable def c7 : Code := subC b [1, 1, 1, 1]
noncomputable def K15 (k : Nat) : C := outD h c7 (K9 k)
noncomputable def K16 (k : Nat) : C := seqC E h k c7 (K9 k)
noncomputable def c8 : Code := subC b [1, 1, 1, 1, 1]
noncomputable def K17 (k : Nat) : C := outD h c8 (K15 k)
noncomputable def K18 (k : Nat) : C := seqC E h k c8 (K15 k)
noncomputable def c9 : Code := subC b [1, 1, 1, 1, 0, 1]
noncomputable def K19 (k : Nat) : C := outD h c9 (K18 k)
noncomputable def K20 (k : Nat) : C := seqC E h k c9 (K18 k)
noncomputable def c10 : Code := subC b [1, 1, 1, 1, 0, 1, 0, 1]
noncomputable def K21 (k : Nat) : C := outD h c10 (K19 k)
noncomputable def K22 (k : Nat) : C := seqC E h k c10 (K19 k)
noncomputable def c11 : Code := subC b [1, 1, 1, 1, 1, 1]
noncomputable def K23 (k : Nat) : C := outD h c11 (K17 k)
noncomputable def K24 (k : Nat) : C := seqC E h k c11 (K17 k)
noncomputable def c12 : Code := subC b [1, 1, 1, 1, 1, 1, 1]
noncomputable def K25 (k : Nat) : C := outD h c12 (K23 k)
noncomputable def K26 (k : Nat) : C := seqC E h k c12 (K23 k)
noncomputable def c13 : Code := subC b [1, 1, 1, 1, 1, 1, 0, 1]
noncomputable def K27 (k : Nat) : C := outD h c13 (K26 k)
noncomputable def K28 (k : Nat) : C := seqC E h k c13 (K26 k)
noncomputable def K29 (k : Nat) : C := blockK 0 (K27 k)
noncomputable def c14 : Code := subC b [1, 1, 1, 1, 1, 1, 0, 1, 0, 0]
noncomputable def K30 (k n1 : Nat) : C := loopD E h k c14 (K29 k) n1
noncomputable def c15 : Code := subC b [1, 1, 1, 1, 1, 1, 0, 1, 0, 0, 1]
noncomputable def K31 (k n1 : Nat) : C := outD h c15 (K30 k n1)
noncomputable def K32 (k n1 : Nat) : C := seqC E h k c15 (K30 k n1)
noncomputable def c16 : Code := subC b [1, 1, 1, 1, 1, 1, 0, 1, 0, 0, 0, 1]
noncomputable def K33 (k n1 : Nat) : C := outD h c16 (K32 k n1)
noncomputable def K34 (k n1 : Nat) : C := seqC E h k c16 (K32 k n1)
noncomputable def c17 : Code := subC b [1, 1, 1, 1, 1, 1, 0, 1, 0, 0, 1, 1]
noncomputable def K35 (k n1 : Nat) : C := outD h c17 (K31 k n1)
noncomputable def K36 (k n1 : Nat) : C := seqC E h k c17 (K31 k n1)
noncomputable def K37 (k n1 : Nat) : C := blockK 1 (K36 k n1)
noncomputable def c18 : Code := subC b [1, 1, 1, 1, 1, 1, 0, 1, 0, 0, 1, 0, 0, 1]
noncomputable def K38 (k n1 : Nat) : C := outD h c18 (K37 k n1)
noncomputable def K39 (k n1 : Nat) : C := seqC E h k c18 (K37 k n1)
noncomputable def c19 : Code := subC b [1, 1, 1, 1, 1, 1, 0, 1, 0, 0, 1, 0, 0, 1, 1]
noncomputable def K40 (k n1 : Nat) : C := outD h c19 (K38 k n1)
noncomputable def K41 (k n1 : Nat) : C := seqC E h k c19 (K38 k n1)
noncomputable def c20 : Code := subC b [1, 1, 1, 1, 1, 1, 0, 1, 0, 0, 1, 0, 0, 1, 0, 1]
noncomputable def K42 (k n1 : Nat) : C := outD h c20 (K41 k n1)
noncomputable def K43 (k n1 : Nat) : C := seqC E h k c20 (K41 k n1)
noncomputable def c21 : Code := subC b [1, 1, 1, 1, 1, 1, 0, 1, 0, 0, 1, 0, 0, 1, 0, 1, 0, 1]
noncomputable def K44 (k n1 : Nat) : C := outD h c21 (K42 k n1)
noncomputable def K45 (k n1 : Nat) : C := seqC E h k c21 (K42 k n1)
noncomputable def c22 : Code := subC b [1, 1, 1, 1, 1, 1, 0, 1, 0, 0, 1, 0, 0, 1, 1, 1]
noncomputable def K46 (k n1 : Nat) : C := outD h c22 (K40 k n1)
noncomputable def K47 (k n1 : Nat) : C := seqC E h k c22 (K40 k n1)
noncomputable def c23 : Code := subC b [1, 1, 1, 1, 1, 1, 0, 1, 0, 0, 1, 0, 0, 1, 1, 1, 1]
noncomputable def K48 (k n1 : Nat) : C := outD h c23 (K46 k n1)
noncomputable def K49 (k n1 : Nat) : C := seqC E h k c23 (K46 k n1)
noncomputable def c24 : Code := subC b [1, 1, 1, 1, 1, 1, 0, 1, 0, 0, 1, 0, 0, 1, 1, 1, 1, 1]
noncomputable def K50 (k n1 : Nat) : C := outD h c24 (K48 k n1)
noncomputable def K51 (k n1 : Nat) : C := seqC E h k c24 (K48 k n1)
noncomputable def c25 : Code := subC b [1, 1, 1, 1, 1, 1, 0, 1, 0, 0, 1, 0, 0, 1, 1, 1, 1, 1, 1]
noncomputable def K52 (k n1 : Nat) : C := outD h c25 (K50 k n1)
noncomputable def K53 (k n1 : Nat) : C := seqC E h k c25 (K50 k n1)
noncomputable def c26 : Code := subC b [1, 1, 1, 1, 1, 1, 0, 1, 0, 0, 1, 0, 0, 1, 1, 1, 1, 1, 1, 1]
noncomputable def K54 (k n1 : Nat) : C := outD h c26 (K52 k n1)
noncomputable def K55 (k n1 : Nat) : C := seqC E h k c26 (K52 k n1)
noncomputable def c27 : Code := subC b [1, 1, 1, 1, 1, 1, 0, 1, 0, 0, 1, 0, 0, 1, 1, 1, 1, 1, 1, 0, 1]
noncomputable def K56 (k n1 : Nat) : C := outD h c27 (K55 k n1)
noncomputable def K57 (k n1 : Nat) : C := seqC E h k c27 (K55 k n1)
noncomputable def K58 (k n1 : Nat) : C := blockK 2 (K56 k n1)
noncomputable def c28 : Code := subC b [1, 1, 1, 1, 1, 1, 0, 1, 0, 0, 1, 0, 0, 1, 1, 1, 1, 1, 1, 0, 1, 0, 1]
noncomputable def K59 (k n1 : Nat) : C := outD h c28 (K58 k n1)
noncomputable def K60 (k n1 : Nat) : C := seqC E h k c28 (K58 k n1)
noncomputable def c29 : Code := subC b [1, 1, 1, 1, 1, 1, 0, 1, 0, 0, 1, 0, 0, 1, 1, 1, 1, 1, 1, 0, 1, 0, 1, 0, 1]
noncomputable def K61 (k n1 : Nat) : C := outD h c29 (K59 k n1)
noncomputable def K62 (k n1 : Nat) : C := seqC E h k c29 (K59 k n1)
noncomputable def c30 : Code := subC b [1, 1, 1, 1, 1, 1, 0, 1, 0, 0, 1, 0, 0, 1, 1, 1, 1, 1, 1, 0, 1, 0, 1, 0, 1, 1]
noncomputable def K63 (k n1 : Nat) : C := outD h c30 (K61 k n1)
noncomputable def K64 (k n1 : Nat) : C := seqC E h k c30 (K61 k n1)
noncomputable def c31 : Code := subC b [1, 1, 1, 1, 1, 1, 0, 1, 0, 0, 1, 0, 0, 1, 1, 1, 1, 1, 1, 0, 1, 0, 1, 0, 1, 1, 1]
noncomputable def K65 (k n1 : Nat) : C := outD h c31 (K63 k n1)
noncomputable def K66 (k n1 : Nat) : C := seqC E h k c31 (K63 k n1)
noncomputable def c32 : Code := subC b [1, 1, 1, 1, 1, 1, 0, 1, 0, 0, 1, 0, 0, 1, 1, 1, 1, 1, 1, 0, 1, 0, 1, 0, 1, 1, 1, 0, 1]
noncomputable def K67 (k n1 : Nat) : C := outD h c32 (K65 k n1)
noncomputable def K68 (k n1 : Nat) : C := seqC E h k c32 (K65 k n1)
noncomputable def c33 : Code := subC b [1, 1, 1, 1, 1, 1, 0, 1, 0, 0, 1, 0, 0, 1, 1, 1, 1, 1, 1, 0, 1, 0, 1, 1, 1]
noncomputable def K69 (k n1 : Nat) : C := outD h c33 (K59 k n1)
noncomputable def K70 (k n1 : Nat) : C := seqC E h k c33 (K59 k n1)
noncomputable def c34 : Code := subC b [1, 1, 1, 1, 1, 1, 0, 1, 0, 0, 1, 0, 0, 1, 1, 1, 1, 1, 1, 0, 1, 0, 1, 1, 1, 0, 1]
noncomputable def K71 (k n1 : Nat) : C := outD h c34 (K69 k n1)
noncomputable def K72 (k n1 : Nat) : C := seqC E h k c34 (K69 k n1)
noncomputable def c35 : Code := subC b [1, 1, 1, 1, 1, 1, 0, 1, 0, 0, 1, 0, 0, 1, 1, 1, 1, 1, 1, 0, 1, 0, 1, 1, 1, 0, 1, 1]
noncomputable def K73 (k n1 : Nat) : C := outD h c35 (K71 k n1)
noncomputable def K74 (k n1 : Nat) : C := seqC E h k c35 (K71 k n1)
noncomputable def c36 : Code := subC b [1, 1, 1, 1, 1, 1, 0, 1, 0, 0, 1, 0, 0, 1, 1, 1, 1, 1, 1, 0, 1, 0, 1, 1, 1, 0, 1, 1, 1]
noncomputable def K75 (k n1 : Nat) : C := outD h c36 (K73 k n1)
noncomputable def K76 (k n1 : Nat) : C := seqC E h k c36 (K73 k n1)
noncomputable def c37 : Code := subC b [1, 1, 1, 1, 1, 1, 0, 1, 0, 0, 1, 0, 0, 1, 1, 1, 1, 1, 1, 0, 1, 0, 1, 1, 1, 0, 1, 1, 0, 1]
noncomputable def K77 (k n1 : Nat) : C := outD h c37 (K76 k n1)
noncomputable def K78 (k n1 : Nat) : C := seqC E h k c37 (K76 k n1)
noncomputable def c38 : Code := subC b [1, 1, 1, 1, 1, 1, 0, 1, 0, 0, 1, 0, 0, 1, 1, 1, 1, 1, 1, 0, 1, 0, 1, 1, 1, 0, 1, 1, 0, 1, 0, 1]
noncomputable def K79 (k n1 : Nat) : C := outD h c38 (K77 k n1)
noncomputable def K80 (k n1 : Nat) : C := seqC E h k c38 (K77 k n1)
noncomputable def c39 : Code := subC b [1, 1, 1, 1, 1, 1, 0, 1, 0, 0, 1, 0, 0, 1, 1, 1, 1, 1, 1, 0, 1, 0, 1, 1, 1, 0, 1, 1, 0, 1, 0, 1, 1]
noncomputable def K81 (k n1 : Nat) : C := outD h c39 (K79 k n1)
noncomputable def K82 (k n1 : Nat) : C := seqC E h k c39 (K79 k n1)
noncomputable def c40 : Code := subC b [1, 1, 1, 1, 1, 1, 0, 1, 0, 0, 1, 0, 0, 1, 1, 1, 1, 1, 1, 0, 1, 0, 1, 1, 1, 0, 1, 1, 0, 1, 0, 1, 1, 1]
noncomputable def K83 (k n1 : Nat) : C := outD h c40 (K81 k n1)
noncomputable def K84 (k n1 : Nat) : C := seqC E h k c40 (K81 k n1)
noncomputable def c41 : Code := subC b [1, 1, 1, 1, 1, 1, 0, 1, 0, 0, 1, 0, 0, 1, 1, 1, 1, 1, 1, 0, 1, 0, 1, 1, 1, 1, 1]
noncomputable def K85 (k n1 : Nat) : C := outD h c41 (K69 k n1)
noncomputable def K86 (k n1 : Nat) : C := seqC E h k c41 (K69 k n1)
noncomputable def c42 : Code := subC b [1, 1, 1, 1, 1, 1, 0, 1, 0, 0, 1, 0, 0, 1, 1, 1, 1, 1, 1, 0, 1, 0, 1, 1, 1, 1, 1, 0, 1]
noncomputable def K87 (k n1 : Nat) : C := outD h c42 (K85 k n1)
noncomputable def K88 (k n1 : Nat) : C := seqC E h k c42 (K85 k n1)
noncomputable def c43 : Code := subC b [1, 1, 1, 1, 1, 1, 0, 1, 0, 0, 1, 0, 0, 1, 1, 1, 1, 1, 1, 0, 1, 0, 1, 1, 1, 1, 1, 0, 1, 1]
noncomputable def K89 (k n1 : Nat) : C := outD h c43 (K87 k n1)
noncomputable def K90 (k n1 : Nat) : C := seqC E h k c43 (K87 k n1)
noncomputable def c44 : Code := subC b [1, 1, 1, 1, 1, 1, 0, 1, 0, 0, 1, 0, 0, 1, 1, 1, 1, 1, 1, 0, 1, 0, 1, 1, 1, 1, 1, 1, 1]
noncomputable def K91 (k n1 : Nat) : C := outD h c44 (K85 k n1)
noncomputable def K92 (k n1 : Nat) : C := seqC E h k c44 (K85 k n1)
noncomputable def c45 : Code := subC b [1, 1, 1, 1, 1, 1, 0, 1, 0, 0, 1, 0, 0, 1, 1, 1, 1, 1, 1, 0, 1, 0, 1, 1, 1, 1, 1, 1, 1, 1]
noncomputable def K93 (k n1 : Nat) : C := outD h c45 (K91 k n1)
noncomputable def K94 (k n1 : Nat) : C := seqC E h k c45 (K91 k n1)
noncomputable def c46 : Code := subC b [1, 1, 1, 1, 1, 1, 0, 1, 0, 0, 1, 0, 0, 1, 1, 1, 1, 1, 1, 0, 1, 0, 1, 1, 1, 1, 1, 1, 1, 1, 1]
noncomputable def K95 (k n1 : Nat) : C := outD h c46 (K93 k n1)
noncomputable def K96 (k n1 : Nat) : C := seqC E h k c46 (K93 k n1)
noncomputable def c47 : Code := subC b [1, 1, 1, 1, 1, 1, 0, 1, 0, 0, 1, 0, 0, 1, 1, 1, 1, 1, 1, 0, 1, 0, 1, 1, 1, 1, 1, 1, 1, 1, 1, 0, 1]
noncomputable def K97 (k n1 : Nat) : C := outD h c47 (K95 k n1)
noncomputable def K98 (k n1 : Nat) : C := seqC E h k c47 (K95 k n1)
noncomputable def c48 : Code := subC b [1, 1, 1, 1, 1, 1, 0, 1, 0, 0, 1, 0, 0, 1, 1, 1, 1, 1, 1, 1, 1]
noncomputable def K99 (k n1 : Nat) : C := outD h c48 (K54 k n1)
noncomputable def K100 (k n1 : Nat) : C := seqC E h k c48 (K54 k n1)
noncomputable def c49 : Code := subC b [1, 1, 1, 1, 1, 1, 0, 1, 0, 0, 1, 0, 0, 1, 1, 1, 1, 1, 1, 1, 0, 1]
noncomputable def K101 (k n1 : Nat) : C := outD h c49 (K100 k n1)
noncomputable def K102 (k n1 : Nat) : C := seqC E h k c49 (K100 k n1)
noncomputable def c50 : Code := subC b [1, 1, 1, 1, 1, 1, 0, 1, 0, 0, 1, 0, 0, 1, 1, 1, 1, 1, 1, 1, 1, 1]
noncomputable def K103 (k n1 : Nat) : C := outD h c50 (K99 k n1)
noncomputable def K104 (k n1 : Nat) : C := seqC E h k c50 (K99 k n1)
noncomputable def c51 : Code := subC b [1, 1, 1, 1, 1, 1, 0, 1, 0, 0, 1, 0, 0, 1, 1, 1, 1, 1, 1, 1, 1, 0, 1]
noncomputable def K105 (k n1 : Nat) : C := outD h c51 (K104 k n1)
noncomputable def K106 (k n1 : Nat) : C := seqC E h k c51 (K104 k n1)
noncomputable def c52 : Code := subC b [1, 1, 1, 1, 1, 1, 0, 1, 0, 0, 1, 0, 0, 1, 1, 1, 1, 1, 1, 1, 1, 0, 1, 0, 1]
noncomputable def K107 (k n1 : Nat) : C := outD h c52 (K105 k n1)
noncomputable def K108 (k n1 : Nat) : C := seqC E h k c52 (K105 k n1)
noncomputable def c53 : Code := subC b [1, 1, 1, 1, 1, 1, 0, 1, 0, 0, 1, 0, 0, 1, 1, 1, 1, 1, 1, 1, 1, 1, 1]
noncomputable def K109 (k n1 : Nat) : C := outD h c53 (K103 k n1)
noncomputable def K110 (k n1 : Nat) : C := seqC E h k c53 (K103 k n1)
noncomputable def c54 : Code := subC b [1, 1, 1, 1, 1, 1, 0, 1, 0, 0, 1, 0, 0, 1, 1, 1, 1, 1, 1, 1, 1, 1, 0, 1]
noncomputable def K111 (k n1 : Nat) : C := outD h c54 (K110 k n1)
noncomputable def K112 (k n1 : Nat) : C := seqC E h k c54 (K110 k n1)
noncomputable def c55 : Code := subC b [1, 1, 1, 1, 1, 1, 0, 1, 0, 0, 1, 0, 0, 1, 1, 1, 1, 1, 1, 1, 1, 1, 1, 1]
noncomputable def K113 (k n1 : Nat) : C := outD h c55 (K109 k n1)
noncomputable def K114 (k n1 : Nat) : C := seqC E h k c55 (K109 k n1)
noncomputable def c56 : Code := subC b [1, 1, 1, 1, 1, 1, 0, 1, 0, 0, 1, 0, 0, 1, 1, 1, 1, 1, 1, 1, 1, 1, 1, 0, 1]
noncomputable def K115 (k n1 : Nat) : C := outD h c56 (K114 k n1)
noncomputable def K116 (k n1 : Nat) : C := seqC E h k c56 (K114 k n1)
noncomputable def c57 : Code := subC b [1, 1, 1, 1, 1, 1, 0, 1, 0, 0, 1, 0, 0, 1, 1, 1, 1, 1, 1, 1, 1, 1, 1, 0, 1, 0, 1]
noncomputable def K117 (k n1 : Nat) : C := outD h c57 (K115 k n1)
noncomputable def K118 (k n1 : Nat) : C := seqC E h k c57 (K115 k n1)
noncomputable def c58 : Code := subC b [1, 1, 1, 1, 1, 1, 0, 1, 0, 0, 1, 0, 0, 1, 1, 1, 1, 1, 1, 1, 1, 1, 1, 1, 1]
noncomputable def K119 (k n1 : Nat) : C := outD h c58 (K113 k n1)
noncomputable def K120 (k n1 : Nat) : C := seqC E h k c58 (K113 k n1)
noncomputable def c59 : Code := subC b [1, 1, 1, 1, 1, 1, 0, 1, 0, 0, 1, 0, 0, 1, 1, 1, 1, 1, 1, 0, 1, 0, 1, 1, 1, 0, 1, 1, 0, 1, 0, 1, 1, 1, 0, 1]
noncomputable def K121 (k n1 : Nat) : C := outD h c59 (K83 k n1)
noncomputable def K122 (k n1 : Nat) : C := seqC E h k c59 (K83 k n1)
noncomputable def c60 : Code := subC b [1, 1, 1, 1, 1, 1, 0, 1, 0, 0, 1, 0, 0, 1, 1, 1, 1, 1, 1, 0, 1, 0, 1, 1, 1, 0, 1, 1, 1, 1]
noncomputable def K123 (k n1 : Nat) : C := outD h c60 (K75 k n1)
noncomputable def K124 (k n1 : Nat) : C := seqC E h k c60 (K75 k n1)
noncomputable def c61 : Code := subC b [1, 1, 1, 1, 1, 1, 0, 1, 0, 0, 1, 0, 0, 1, 1, 1, 1, 1, 1, 0, 1, 0, 1, 1, 1, 0, 1, 1, 1, 0, 1]
noncomputable def K125 (k n1 : Nat) : C := outD h c61 (K124 k n1)
noncomputable def K126 (k n1 : Nat) : C := seqC E h k c61 (K124 k n1)
noncomputable def c62 : Code := subC b [1, 1, 1, 1, 1, 1, 0, 1, 0, 0, 1, 0, 0, 1, 1, 1, 1, 1, 1, 0, 1, 0, 1, 1, 1, 0, 1, 1, 1, 0, 1, 0, 1]
noncomputable def K127 (k n1 : Nat) : C := outD h c62 (K125 k n1)
noncomputable def K128 (k n1 : Nat) : C := seqC E h k c62 (K125 k n1)
noncomputable def c63 : Code := subC b [1, 1, 1, 1, 1, 1, 0, 1, 0, 0, 1, 0, 0, 1, 1, 1, 1, 1, 1, 0, 1, 0, 1, 1, 1, 0, 1, 1, 1, 1, 1]
noncomputable def K129 (k n1 : Nat) : C := outD h c63 (K123 k n1)
noncomputable def K130 (k n1 : Nat) : C := seqC E h k c63 (K123 k n1)
noncomputable def c64 : Code := subC b [1, 1, 1, 1, 1, 1, 0, 1, 0, 0, 1, 0, 0, 1, 1, 1, 1, 1, 1, 0, 1, 0, 1, 1, 1, 0, 1, 1, 1, 1, 1, 1]
noncomputable def K131 (k n1 : Nat) : C := outD h c64 (K129 k n1)
noncomputable def K132 (k n1 : Nat) : C := seqC E h k c64 (K129 k n1)
noncomputable def c65 : Code := subC b [1, 1, 1, 1, 1, 1, 0, 1, 0, 0, 1, 0, 0, 1, 1, 1, 1, 1, 1, 0, 1, 0, 1, 1, 1, 0, 1, 1, 1, 1, 1, 1, 0, 1]
noncomputable def K133 (k n1 : Nat) : C := outD h c65 (K131 k n1)
noncomputable def K134 (k n1 : Nat) : C := seqC E h k c65 (K131 k n1)
noncomputable def c66 : Code := subC b [1, 1, 1, 1, 1, 1, 0, 1, 0, 0, 1, 0, 0, 1, 1, 1, 1, 1, 1, 0, 1, 0, 1, 1, 1, 0, 1, 1, 1, 1, 1, 1, 0, 0, 1]
noncomputable def K135 (k n1 : Nat) : C := outD h c66 (K134 k n1)
noncomputable def K136 (k n1 : Nat) : C := seqC E h k c66 (K134 k n1)
noncomputable def c67 : Code := subC b [1, 1, 1, 1, 1, 1, 0, 1, 0, 0, 1, 0, 0, 1, 1, 1, 1, 1, 1, 0, 1, 0, 1, 1, 1, 0, 1, 1, 1, 1, 1, 1, 0, 0, 1, 0, 1]
noncomputable def K137 (k n1 : Nat) : C := outD h c67 (K135 k n1)
noncomputable def K138 (k n1 : Nat) : C := seqC E h k c67 (K135 k n1)
noncomputable def c68 : Code := subC b [1, 1, 1, 1, 1, 1, 1, 1]
noncomputable def K139 (k : Nat) : C := outD h c68 (K25 k)
noncomputable def K140 (k : Nat) : C := seqC E h k c68 (K25 k)
noncomputable def c69 : Code := subC b [1, 1, 1, 1, 1, 1, 1, 0, 1]
noncomputable def K141 (k : Nat) : C := outD h c69 (K140 k)
noncomputable def K142 (k : Nat) : C := seqC E h k c69 (K140 k)
noncomputable def K143 (k : Nat) : C := blockK 3 (K141 k)
noncomputable def c70 : Code := subC b [1, 1, 1, 1, 1, 1, 1, 0, 1, 0, 0]
noncomputable def K144 (k n15 : Nat) : C := loopD E h k c70 (K143 k) n15
noncomputable def c71 : Code := subC b [1, 1, 1, 1, 1, 1, 1, 0, 1, 0, 0, 1]
noncomputable def K145 (k n15 : Nat) : C := outD h c71 (K144 k n15)
noncomputable def K146 (k n15 : Nat) : C := seqC E h k c71 (K144 k n15)
noncomputable def c72 : Code := subC b [1, 1, 1, 1, 1, 1, 1, 0, 1, 0, 0, 0, 1]
noncomputable def K147 (k n15 : Nat) : C := outD h c72 (K146 k n15)
noncomputable def K148 (k n15 : Nat) : C := seqC E h k c72 (K146 k n15)
noncomputable def c73 : Code := subC b [1, 1, 1, 1, 1, 1, 1, 0, 1, 0, 0, 1, 1]
noncomputable def K149 (k n15 : Nat) : C := outD h c73 (K145 k n15)
noncomputable def K150 (k n15 : Nat) : C := seqC E h k c73 (K145 k n15)
noncomputable def K151 (k n15 : Nat) : C := blockK 4 (K150 k n15)
noncomputable def c74 : Code := subC b [1, 1, 1, 1, 1, 1, 1, 0, 1, 0, 0, 1, 0, 0, 1]
noncomputable def K152 (k n15 : Nat) : C := outD h c74 (K151 k n15)
noncomputable def K153 (k n15 : Nat) : C := seqC E h k c74 (K151 k n15)
noncomputable def c75 : Code := subC b [1, 1, 1, 1, 1, 1, 1, 0, 1, 0, 0, 1, 0, 0, 1, 0, 1]
noncomputable def K154 (k n15 : Nat) : C := outD h c75 (K152 k n15)
noncomputable def K155 (k n15 : Nat) : C := seqC E h k c75 (K152 k n15)
noncomputable def c76 : Code := subC b [1, 1, 1, 1, 1, 1, 1, 1, 1]
noncomputable def K156 (k : Nat) : C := outD h c76 (K139 k)
noncomputable def K157 (k : Nat) : C := seqC E h k c76 (K139 k)
abbrev T10 := (List ((Int) × ((Int) × ((Int) × (List UInt8))))) → (List (Option N0)) → (List (List UInt8)) → Int → (Option N0) → R
abbrev T12 := (List ((Int) × ((Int) × ((Int) × (List UInt8))))) → (List (Option N0)) → (List (List UInt8)) → Int → (List UInt8) → (Option N0) → (Option N0) → R
abbrev T11 := (List ((Int) × ((Int) × ((Int) × (List UInt8))))) → (List (Option N0)) → (List (List UInt8)) → Int → (List UInt8) → Bool → (Option N0) → (Option N0) → R
abbrev T9 := (List ((Int) × ((Int) × ((Int) × (List UInt8))))) → (List (Option N0)) → (List (List UInt8)) → Int → Int → (List UInt8) → (Option N0) → ((Int) × ((Int) × ((Int) × (List UInt8)))) → (Option N0) → R
abbrev T8 := (List ((Int) × ((Int) × ((Int) × (List UInt8))))) → (List (Option N0)) → (List (List UInt8)) → Int → Int → (List UInt8) → Bool → (Option N0) → ((Int) × ((Int) × ((Int) × (List UInt8)))) → (Option N0) → R
abbrev T7 := (List ((Int) × ((Int) × ((Int) × (List UInt8))))) → Int → (List (Option N0)) → (List (List UInt8)) → Int → Int → (List UInt8) → (Option N0) → ((Int) × ((Int) × ((Int) × (List UInt8)))) → (Option N0) → R
abbrev T4 := (List ((Int) × ((Int) × ((Int) × (List UInt8))))) → Int → (List (Option N0)) → (List (List UInt8)) → Int → Int → (List UInt8) → (Option N0) → ((Int) × ((Int) × ((Int) × (List UInt8)))) → (Option N0) → R
abbrev T14 := (List ((Int) × ((Int) × ((Int) × (List UInt8))))) → (List (Option N0)) → (List (List UInt8)) → Int → Int → (List UInt8) → (Option N0) → ((Int) × ((Int) × ((Int) × (List UInt8)))) → (Option N0) → R
abbrev T13 := (List ((Int) × ((Int) × ((Int) × (List UInt8))))) → (List (Option N0)) → (List (List UInt8)) → Int → Int → (List UInt8) → Bool → (Option N0) → ((Int) × ((Int) × ((Int) × (List UInt8)))) → (Option N0) → R
abbrev T6 := (List ((Int) × ((Int) × ((Int) × (List UInt8))))) → (List (Option N0)) → (List (List UInt8)) → Int → Int → (List UInt8) → Int → (Option N0) → ((Int) × ((Int) × ((Int) × (List UInt8)))) → (Option N0) → (Option N0) → (Option N0) → R
abbrev T5 := (List ((Int) × ((Int) × ((Int) × (List UInt8))))) → (List (Option N0)) → (List (List UInt8)) → Int → Int → (List UInt8) → Int → Bool → (Option N0) → ((Int) × ((Int) × ((Int) × (List UInt8)))) → (Option N0) → (Option N0) → (Option N0) → R
abbrev T2 := (List ((Int) × ((Int) × ((Int) × (List UInt8))))) → (List (Option N0)) → (List (List UInt8)) → Int → (Option N0) → R
abbrev T16 := R
abbrev T15 := (List (Option N0)) → (List (List UInt8)) → Int → R
abbrev T3 := (List (Option N0)) → (List (List UInt8)) → R
abbrev T1 := (List ((Int) × ((Int) × ((Int) × (List UInt8))))) → (List (Option N0)) → (List (List UInt8)) → Int → (Option N0) → R
abbrev T0 := (List UInt8) → (List ((Int) × ((Int) × ((Int) × (List UInt8))))) → R
abbrev s10 : (List ((Int) × ((Int) × ((Int) × (List UInt8))))) → (List (Option N0)) → (List (List UInt8)) → Int → (Option N0) → ST cx := fun (x1 : List ((Int) × ((Int) × ((Int) × (List UInt8))))) (x7 : List (Option N0)) (x8 : List (List UInt8)) (x9 : Int) (m5 : Option N0) => ({ vars := [(1, .v (.slice 70 (.agg (.pair (.int .u8) (.pair (.int .i64) (.pair (.int .i64) .str))))) .ro x1), (5, .addr (.mem 5) []), (7, .v (.slice 58 (.agg (.ptr 0))) (.own .ro) x7), (8, .v (.slice 9 .str) (.own .ro) x8), (9, .v (.int .i64) .ro x9)], scr := [], mems := [(5, ⟨(.agg (.ptr 0)), .ro, m5⟩)] } : ST cx)
noncomputable def u10 (k n1 : Nat) : T10 := fun (x1 : List ((Int) × ((Int) × ((Int) × (List UInt8))))) (x7 : List (Option N0)) (x8 : List (List UInt8)) (x9 : Int) (m5 : Option N0) => uK (run E h k c17) (s10 x1 x7 x8 x9 m5) (K35 k n1)
noncomputable abbrev l10 (k n1 : Nat) : T10 := fun (x1 : List ((Int) × ((Int) × ((Int) × (List UInt8))))) (x7 : List (Option N0)) (x8 : List (List UInt8)) (x9 : Int) (m5 : Option N0) => cutK (run E h k c17) (s10 x1 x7 x8 x9 m5) (K35 k n1)
abbrev s12 : (List ((Int) × ((Int) × ((Int) × (List UInt8))))) → (List (Option N0)) → (List (List UInt8)) → Int → (List UInt8) → (Option N0) → (Option N0) → ST cx := fun (x1 : List ((Int) × ((Int) × ((Int) × (List UInt8))))) (x7 : List (Option N0)) (x8 : List (List UInt8)) (x9 : Int) (x14 : List UInt8) (m5 m12 : Option N0) => ({ vars := [(1, .v (.slice 70 (.agg (.pair (.int .u8) (.pair (.int .i64) (.pair (.int .i64) .str))))) .ro x1), (5, .addr (.mem 5) []), (7, .v (.slice 58 (.agg (.ptr 0))) (.own .ro) x7), (8, .v (.slice 9 .str) (.own .ro) x8), (9, .v (.int .i64) .ro x9), (12, .addr (.mem 12) []), (14, .v .str .ro x14)], scr := [], mems := [(5, ⟨(.agg (.ptr 0)), .ro, m5⟩), (12, ⟨(.agg (.ptr 0)), .ro, m12⟩)] } : ST cx)
noncomputable def u12 (k n1 : Nat) : T12 := fun (x1 : List ((Int) × ((Int) × ((Int) × (List UInt8))))) (x7 : List (Option N0)) (x8 : List (List UInt8)) (x9 : Int) (x14 : List UInt8) (m5 m12 : Option N0) => uK (run E h k c55) (s12 x1 x7 x8 x9 x14 m5 m12) (K113 k n1)
noncomputable abbrev l12 (k n1 : Nat) : T12 := fun (x1 : List ((Int) × ((Int) × ((Int) × (List UInt8))))) (x7 : List (Option N0)) (x8 : List (List UInt8)) (x9 : Int) (x14 : List UInt8) (m5 m12 : Option N0) => cutK (run E h k c55) (s12 x1 x7 x8 x9 x14 m5 m12) (K113 k n1)
abbrev s11 : (List ((Int) × ((Int) × ((Int) × (List UInt8))))) → (List (Option N0)) → (List (List UInt8)) → Int → (List UInt8) → Bool → (Option N0) → (Option N0) → ST cx := fun (x1 : List ((Int) × ((Int) × ((Int) × (List UInt8))))) (x7 : List (Option N0)) (x8 : List (List UInt8)) (x9 : Int) (x14 : List UInt8) (x239 : Bool) (m5 m12 : Option N0) => ({ vars := [(1, .v (.slice 70 (.agg (.pair (.int .u8) (.pair (.int .i64) (.pair (.int .i64) .str))))) .ro x1), (5, .addr (.mem 5) []), (7, .v (.slice 58 (.agg (.ptr 0))) (.own .ro) x7), (8, .v (.slice 9 .str) (.own .ro) x8), (9, .v (.int .i64) .ro x9), (12, .addr (.mem 12) []), (14, .v .str .ro x14), (239, .v .bool .ro x239)], scr := [], mems := [(5, ⟨(.agg (.ptr 0)), .ro, m5⟩), (12, ⟨(.agg (.ptr 0)), .ro, m12⟩)] } : ST cx)
noncomputable def u11 (k n1 : Nat) : T11 := fun (x1 : List ((Int) × ((Int) × ((Int) × (List UInt8))))) (x7 : List (Option N0)) (x8 : List (List UInt8)) (x9 : Int) (x14 : List UInt8) (x239 : Bool) (m5 m12 : Option N0) => uK (run E h k c56) (s11 x1 x7 x8 x9 x14 x239 m5 m12) (K115 k n1)
noncomputable abbrev l11 (k n1 : Nat) : T11 := fun (x1 : List ((Int) × ((Int) × ((Int) × (List UInt8))))) (x7 : List (Option N0)) (x8 : List (List UInt8)) (x9 : Int) (x14 : List UInt8) (x239 : Bool) (m5 m12 : Option N0) => cutK (run E h k c56) (s11 x1 x7 x8 x9 x14 x239 m5 m12) (K115 k n1)
abbrev s9 : (List ((Int) × ((Int) × ((Int) × (List UInt8))))) → (List (Option N0)) → (List (List UInt8)) → Int → Int → (List UInt8) → (Option N0) → ((Int) × ((Int) × ((Int) × (List UInt8)))) → (Option N0) → ST cx := fun (x1 : List ((Int) × ((Int) × ((Int) × (List UInt8))))) (x7 : List (Option N0)) (x8 : List (List UInt8)) (x9 x13 : Int) (x14 : List UInt8) (m5 : Option N0) (m10 : (Int) × ((Int) × ((Int) × (List UInt8)))) (m12 : Option N0) => ({ vars := [(1, .v (.slice 70 (.agg (.pair (.int .u8) (.pair (.int .i64) (.pair (.int .i64) .str))))) .ro x1), (5, .addr (.mem 5) []), (7, .v (.slice 58 (.agg (.ptr 0))) (.own .ro) x7), (8, .v (.slice 9 .str) (.own .ro) x8), (9, .v (.int .i64) .ro x9), (10, .addr (.mem 10) []), (12, .addr (.mem 12) []), (13, .v (.int .i64) .ro x13), (14, .v .str .ro x14)], scr := [], mems := [(5, ⟨(.agg (.ptr 0)), .ro, m5⟩), (10, ⟨(.agg (.pair (.int .u8) (.pair (.int .i64) (.pair (.int .i64) .str)))), .ro, m10⟩), (12, ⟨(.agg (.ptr 0)), .ro, m12⟩)] } : ST cx)
noncomputable def u9 (k n1 : Nat) : T9 := fun (x1 : List ((Int) × ((Int) × ((Int) × (List UInt8))))) (x7 : List (Option N0)) (x8 : List (List UInt8)) (x9 x13 : Int) (x14 : List UInt8) (m5 : Option N0) (m10 : (Int) × ((Int) × ((Int) × (List UInt8)))) (m12 : Option N0) => uK (run E h k c50) (s9 x1 x7 x8 x9 x13 x14 m5 m10 m12) (K103 k n1)
noncomputable abbrev l9 (k n1 : Nat) : T9 := fun (x1 : List ((Int) × ((Int) × ((Int) × (List UInt8))))) (x7 : List (Option N0)) (x8 : List (List UInt8)) (x9 x13 : Int) (x14 : List UInt8) (m5 : Option N0) (m10 : (Int) × ((Int) × ((Int) × (List UInt8)))) (m12 : Option N0) => cutK (run E h k c50) (s9 x1 x7 x8 x9 x13 x14 m5 m10 m12) (K103 k n1)
abbrev s8 : (List ((Int) × ((Int) × ((Int) × (List UInt8))))) → (List (Option N0)) → (List (List UInt8)) → Int → Int → (List UInt8) → Bool → (Option N0) → ((Int) × ((Int) × ((Int) × (List UInt8)))) → (Option N0) → ST cx := fun (x1 : List ((Int) × ((Int) × ((Int) × (List UInt8))))) (x7 : List (Option N0)) (x8 : List (List UInt8)) (x9 x13 : Int) (x14 : List UInt8) (x223 : Bool) (m5 : Option N0) (m10 : (Int) × ((Int) × ((Int) × (List UInt8)))) (m12 : Option N0) => ({ vars := [(1, .v (.slice 70 (.agg (.pair (.int .u8) (.pair (.int .i64) (.pair (.int .i64) .str))))) .ro x1), (5, .addr (.mem 5) []), (7, .v (.slice 58 (.agg (.ptr 0))) (.own .ro) x7), (8, .v (.slice 9 .str) (.own .ro) x8), (9, .v (.int .i64) .ro x9), (10, .addr (.mem 10) []), (12, .addr (.mem 12) []), (13, .v (.int .i64) .ro x13), (14, .v .str .ro x14), (223, .v .bool .ro x223)], scr := [], mems := [(5, ⟨(.agg (.ptr 0)), .ro, m5⟩), (10, ⟨(.agg (.pair (.int .u8) (.pair (.int .i64) (.pair (.int .i64) .str)))), .ro, m10⟩), (12, ⟨(.agg (.ptr 0)), .ro, m12⟩)] } : ST cx)
noncomputable def u8 (k n1 : Nat) : T8 := fun (x1 : List ((Int) × ((Int) × ((Int) × (List UInt8))))) (x7 : List (Option N0)) (x8 : List (List UInt8)) (x9 x13 : Int) (x14 : List UInt8) (x223 : Bool) (m5 : Option N0) (m10 : (Int) × ((Int) × ((Int) × (List UInt8)))) (m12 : Option N0) => uK (run E h k c51) (s8 x1 x7 x8 x9 x13 x14 x223 m5 m10 m12) (K105 k n1)
noncomputable abbrev l8 (k n1 : Nat) : T8 := fun (x1 : List ((Int) × ((Int) × ((Int) × (List UInt8))))) (x7 : List (Option N0)) (x8 : List (List UInt8)) (x9 x13 : Int) (x14 : List UInt8) (x223 : Bool) (m5 : Option N0) (m10 : (Int) × ((Int) × ((Int) × (List UInt8)))) (m12 : Option N0) => cutK (run E h k c51) (s8 x1 x7 x8 x9 x13 x14 x223 m5 m10 m12) (K105 k n1)
abbrev s7 : (List ((Int) × ((Int) × ((Int) × (List UInt8))))) → Int → (List (Option N0)) → (List (List UInt8)) → Int → Int → (List UInt8) → (Option N0) → ((Int) × ((Int) × ((Int) × (List UInt8)))) → (Option N0) → ST cx := fun (x1 : List ((Int) × ((Int) × ((Int) × (List UInt8))))) (x6 : Int) (x7 : List (Option N0)) (x8 : List (List UInt8)) (x9 x13 : Int) (x14 : List UInt8) (m5 : Option N0) (m10 : (Int) × ((Int) × ((Int) × (List UInt8)))) (m12 : Option N0) => ({ vars := [(1, .v (.slice 70 (.agg (.pair (.int .u8) (.pair (.int .i64) (.pair (.int .i64) .str))))) .ro x1), (5, .addr (.mem 5) []), (6, .v (.int .i64) .ro x6), (7, .v (.slice 58 (.agg (.ptr 0))) (.own .ro) x7), (8, .v (.slice 9 .str) (.own .ro) x8), (9, .v (.int .i64) .ro x9), (10, .addr (.mem 10) []), (12, .addr (.mem 12) []), (13, .v (.int .i64) .ro x13), (14, .v .str .ro x14)], scr := [], mems := [(5, ⟨(.agg (.ptr 0)), .ro, m5⟩), (10, ⟨(.agg (.pair (.int .u8) (.pair (.int .i64) (.pair (.int .i64) .str)))), .ro, m10⟩), (12, ⟨(.agg (.ptr 0)), .ro, m12⟩)] } : ST cx)
noncomputable def u7 (k n1 : Nat) : T7 := fun (x1 : List ((Int) × ((Int) × ((Int) × (List UInt8))))) (x6 : Int) (x7 : List (Option N0)) (x8 : List (List UInt8)) (x9 x13 : Int) (x14 : List UInt8) (m5 : Option N0) (m10 : (Int) × ((Int) × ((Int) × (List UInt8)))) (m12 : Option N0) => uK (run E h k c48) (s7 x1 x6 x7 x8 x9 x13 x14 m5 m10 m12) (K99 k n1)
noncomputable abbrev l7 (k n1 : Nat) : T7 := fun (x1 : List ((Int) × ((Int) × ((Int) × (List UInt8))))) (x6 : Int) (x7 : List (Option N0)) (x8 : List (List UInt8)) (x9 x13 : Int) (x14 : List UInt8) (m5 : Option N0) (m10 : (Int) × ((Int) × ((Int) × (List UInt8)))) (m12 : Option N0) => cutK (run E h k c48) (s7 x1 x6 x7 x8 x9 x13 x14 m5 m10 m12) (K99 k n1)
abbrev s4 : (List ((Int) × ((Int) × ((Int) × (List UInt8))))) → Int → (List (Option N0)) → (List (List UInt8)) → Int → Int → (List UInt8) → (Option N0) → ((Int) × ((Int) × ((Int) × (List UInt8)))) → (Option N0) → ST cx := fun (x1 : List ((Int) × ((Int) × ((Int) × (List UInt8))))) (x6 : Int) (x7 : List (Option N0)) (x8 : List (List UInt8)) (x9 x13 : Int) (x14 : List UInt8) (m5 : Option N0) (m10 : (Int) × ((Int) × ((Int) × (List UInt8)))) (m12 : Option N0) => ({ vars := [(1, .v (.slice 70 (.agg (.pair (.int .u8) (.pair (.int .i64) (.pair (.int .i64) .str))))) .ro x1), (5, .addr (.mem 5) []), (6, .v (.int .i64) .ro x6), (7, .v (.slice 58 (.agg (.ptr 0))) (.own .ro) x7), (8, .v (.slice 9 .str) (.own .ro) x8), (9, .v (.int .i64) .ro x9), (10, .addr (.mem 10) []), (12, .addr (.mem 12) []), (13, .v (.int .i64) .ro x13), (14, .v .str .ro x14)], scr := [], mems := [(5, ⟨(.agg (.ptr 0)), .ro, m5⟩), (10, ⟨(.agg (.pair (.int .u8) (.pair (.int .i64) (.pair (.int .i64) .str)))), .ro, m10⟩), (12, ⟨(.agg (.ptr 0)), .ro, m12⟩)] } : ST cx)
noncomputable def u4 (k n1 : Nat) : T4 := fun (x1 : List ((Int) × ((Int) × ((Int) × (List UInt8))))) (x6 : Int) (x7 : List (Option N0)) (x8 : List (List UInt8)) (x9 x13 : Int) (x14 : List UInt8) (m5 : Option N0) (m10 : (Int) × ((Int) × ((Int) × (List UInt8)))) (m12 : Option N0) => uK (run E h k c26) (s4 x1 x6 x7 x8 x9 x13 x14 m5 m10 m12) (K54 k n1)
noncomputable abbrev l4 (k n1 : Nat) : T4 := fun (x1 : List ((Int) × ((Int) × ((Int) × (List UInt8))))) (x6 : Int) (x7 : List (Option N0)) (x8 : List (List UInt8)) (x9 x13 : Int) (x14 : List UInt8) (m5 : Option N0) (m10 : (Int) × ((Int) × ((Int) × (List UInt8)))) (m12 : Option N0) => cutK (run E h k c26) (s4 x1 x6 x7 x8 x9 x13 x14 m5 m10 m12) (K54 k n1)
abbrev s14 : (List ((Int) × ((Int) × ((Int) × (List UInt8))))) → (List (Option N0)) → (List (List UInt8)) → Int → Int → (List UInt8) → (Option N0) → ((Int) × ((Int) × ((Int) × (List UInt8)))) → (Option N0) → ST cx := fun (x1 : List ((Int) × ((Int) × ((Int) × (List UInt8))))) (x7 : List (Option N0)) (x8 : List (List UInt8)) (x9 x13 : Int) (x14 : List UInt8) (m5 : Option N0) (m10 : (Int) × ((Int) × ((Int) × (List UInt8)))) (m12 : Option N0) => ({ vars := [(1, .v (.slice 70 (.agg (.pair (.int .u8) (.pair (.int .i64) (.pair (.int .i64) .str))))) .ro x1), (5, .addr (.mem 5) []), (7, .v (.slice 58 (.agg (.ptr 0))) (.own .ro) x7), (8, .v (.slice 9 .str) (.own .ro) x8), (9, .v (.int .i64) .ro x9), (10, .addr (.mem 10) []), (12, .addr (.mem 12) []), (13, .v (.int .i64) .ro x13), (14, .v .str .ro x14)], scr := [], mems := [(5, ⟨(.agg (.ptr 0)), .ro, m5⟩), (10, ⟨(.agg (.pair (.int .u8) (.pair (.int .i64) (.pair (.int .i64) .str)))), .ro, m10⟩), (12, ⟨(.agg (.ptr 0)), .ro, m12⟩)] } : ST cx)
noncomputable def u14 (k n1 : Nat) : T14 := fun (x1 : List ((Int) × ((Int) × ((Int) × (List UInt8))))) (x7 : List (Option N0)) (x8 : List (List UInt8)) (x9 x13 : Int) (x14 : List UInt8) (m5 : Option N0) (m10 : (Int) × ((Int) × ((Int) × (List UInt8)))) (m12 : Option N0) => uK (run E h k c65) (s14 x1 x7 x8 x9 x13 x14 m5 m10 m12) (K133 k n1)
noncomputable abbrev l14 (k n1 : Nat) : T14 := fun (x1 : List ((Int) × ((Int) × ((Int) × (List UInt8))))) (x7 : List (Option N0)) (x8 : List (List UInt8)) (x9 x13 : Int) (x14 : List UInt8) (m5 : Option N0) (m10 : (Int) × ((Int) × ((Int) × (List UInt8)))) (m12 : Option N0) => cutK (run E h k c65) (s14 x1 x7 x8 x9 x13 x14 m5 m10 m12) (K133 k n1)
abbrev s13 : (List ((Int) × ((Int) × ((Int) × (List UInt8))))) → (List (Option N0)) → (List (List UInt8)) → Int → Int → (List UInt8) → Bool → (Option N0) → ((Int) × ((Int) × ((Int) × (List UInt8)))) → (Option N0) → ST cx := fun (x1 : List ((Int) × ((Int) × ((Int) × (List UInt8))))) (x7 : List (Option N0)) (x8 : List (List UInt8)) (x9 x13 : Int) (x14 : List UInt8) (x181 : Bool) (m5 : Option N0) (m10 : (Int) × ((Int) × ((Int) × (List UInt8)))) (m12 : Option N0) => ({ vars := [(1, .v (.slice 70 (.agg (.pair (.int .u8) (.pair (.int .i64) (.pair (.int .i64) .str))))) .ro x1), (5, .addr (.mem 5) []), (7, .v (.slice 58 (.agg (.ptr 0))) (.own .ro) x7), (8, .v (.slice 9 .str) (.own .ro) x8), (9, .v (.int .i64) .ro x9), (10, .addr (.mem 10) []), (12, .addr (.mem 12) []), (13, .v (.int .i64) .ro x13), (14, .v .str .ro x14), (181, .v .bool .ro x181)], scr := [], mems := [(5, ⟨(.agg (.ptr 0)), .ro, m5⟩), (10, ⟨(.agg (.pair (.int .u8) (.pair (.int .i64) (.pair (.int .i64) .str)))), .ro, m10⟩), (12, ⟨(.agg (.ptr 0)), .ro, m12⟩)] } : ST cx)
noncomputable def u13 (k n1 : Nat) : T13 := fun (x1 : List ((Int) × ((Int) × ((Int) × (List UInt8))))) (x7 : List (Option N0)) (x8 : List (List UInt8)) (x9 x13 : Int) (x14 : List UInt8) (x181 : Bool) (m5 : Option N0) (m10 : (Int) × ((Int) × ((Int) × (List UInt8)))) (m12 : Option N0) => uK (run E h k c66) (s13 x1 x7 x8 x9 x13 x14 x181 m5 m10 m12) (K135 k n1)
noncomputable abbrev l13 (k n1 : Nat) : T13 := fun (x1 : List ((Int) × ((Int) × ((Int) × (List UInt8))))) (x7 : List (Option N0)) (x8 : List (List UInt8)) (x9 x13 : Int) (x14 : List UInt8) (x181 : Bool) (m5 : Option N0) (m10 : (Int) × ((Int) × ((Int) × (List UInt8)))) (m12 : Option N0) => cutK (run E h k c66) (s13 x1 x7 x8 x9 x13 x14 x181 m5 m10 m12) (K135 k n1)
abbrev s6 : (List ((Int) × ((Int) × ((Int) × (List UInt8))))) → (List (Option N0)) → (List (List UInt8)) → Int → Int → (List UInt8) → Int → (Option N0) → ((Int) × ((Int) × ((Int) × (List UInt8)))) → (Option N0) → (Option N0) → (Option N0) → ST cx := fun (x1 : List ((Int) × ((Int) × ((Int) × (List UInt8))))) (x7 : List (Option N0)) (x8 : List (List UInt8)) (x9 x13 : Int) (x14 : List UInt8) (x17 : Int) (m5 : Option N0) (m10 : (Int) × ((Int) × ((Int) × (List UInt8)))) (m12 m15 m16 : Option N0) => ({ vars := [(1, .v (.slice 70 (.agg (.pair (.int .u8) (.pair (.int .i64) (.pair (.int .i64) .str))))) .ro x1), (5, .addr (.mem 5) []), (7, .v (.slice 58 (.agg (.ptr 0))) (.own .ro) x7), (8, .v (.slice 9 .str) (.own .ro) x8), (9, .v (.int .i64) .ro x9), (10, .addr (.mem 10) []), (12, .addr (.mem 12) []), (13, .v (.int .i64) .ro x13), (14, .v .str .ro x14), (15, .addr (.mem 15) []), (16, .addr (.mem 16) []), (17, .v (.int .i64) .ro x17)], scr := [], mems := [(5, ⟨(.agg (.ptr 0)), .ro, m5⟩), (10, ⟨(.agg (.pair (.int .u8) (.pair (.int .i64) (.pair (.int .i64) .str)))), .ro, m10⟩), (12, ⟨(.agg (.ptr 0)), .ro, m12⟩), (15, ⟨(.agg (.ptr 0)), .ro, m15⟩), (16, ⟨(.agg (.ptr 0)), .ro, m16⟩)] } : ST cx)
noncomputable def u6 (k n1 : Nat) : T6 := fun (x1 : List ((Int) × ((Int) × ((Int) × (List UInt8))))) (x7 : List (Option N0)) (x8 : List (List UInt8)) (x9 x13 : Int) (x14 : List UInt8) (x17 : Int) (m5 : Option N0) (m10 : (Int) × ((Int) × ((Int) × (List UInt8)))) (m12 m15 m16 : Option N0) => uK (run E h k c36) (s6 x1 x7 x8 x9 x13 x14 x17 m5 m10 m12 m15 m16) (K75 k n1)
noncomputable abbrev l6 (k n1 : Nat) : T6 := fun (x1 : List ((Int) × ((Int) × ((Int) × (List UInt8))))) (x7 : List (Option N0)) (x8 : List (List UInt8)) (x9 x13 : Int) (x14 : List UInt8) (x17 : Int) (m5 : Option N0) (m10 : (Int) × ((Int) × ((Int) × (List UInt8)))) (m12 m15 m16 : Option N0) => cutK (run E h k c36) (s6 x1 x7 x8 x9 x13 x14 x17 m5 m10 m12 m15 m16) (K75 k n1)
abbrev s5 : (List ((Int) × ((Int) × ((Int) × (List UInt8))))) → (List (Option N0)) → (List (List UInt8)) → Int → Int → (List UInt8) → Int → Bool → (Option N0) → ((Int) × ((Int) × ((Int) × (List UInt8)))) → (Option N0) → (Option N0) → (Option N0) → ST cx := fun (x1 : List ((Int) × ((Int) × ((Int) × (List UInt8))))) (x7 : List (Option N0)) (x8 : List (List UInt8)) (x9 x13 : Int) (x14 : List UInt8) (x17 : Int) (x162 : Bool) (m5 : Option N0) (m10 : (Int) × ((Int) × ((Int) × (List UInt8)))) (m12 m15 m16 : Option N0) => ({ vars := [(1, .v (.slice 70 (.agg (.pair (.int .u8) (.pair (.int .i64) (.pair (.int .i64) .str))))) .ro x1), (5, .addr (.mem 5) []), (7, .v (.slice 58 (.agg (.ptr 0))) (.own .ro) x7), (8, .v (.slice 9 .str) (.own .ro) x8), (9, .v (.int .i64) .ro x9), (10, .addr (.mem 10) []), (12, .addr (.mem 12) []), (13, .v (.int .i64) .ro x13), (14, .v .str .ro x14), (15, .addr (.mem 15) []), (16, .addr (.mem 16) []), (17, .v (.int .i64) .ro x17), (162, .v .bool .ro x162)], scr := [], mems := [(5, ⟨(.agg (.ptr 0)), .ro, m5⟩), (10, ⟨(.agg (.pair (.int .u8) (.pair (.int .i64) (.pair (.int .i64) .str)))), .ro, m10⟩), (12, ⟨(.agg (.ptr 0)), .ro, m12⟩), (15, ⟨(.agg (.ptr 0)), .ro, m15⟩), (16, ⟨(.agg (.ptr 0)), .ro, m16⟩)] } : ST cx)
noncomputable def u5 (k n1 : Nat) : T5 := fun (x1 : List ((Int) × ((Int) × ((Int) × (List UInt8))))) (x7 : List (Option N0)) (x8 : List (List UInt8)) (x9 x13 : Int) (x14 : List UInt8) (x17 : Int) (x162 : Bool) (m5 : Option N0) (m10 : (Int) × ((Int) × ((Int) × (List UInt8)))) (m12 m15 m16 : Option N0) => uK (run E h k c40) (s5 x1 x7 x8 x9 x13 x14 x17 x162 m5 m10 m12 m15 m16) (K83 k n1)
noncomputable abbrev l5 (k n1 : Nat) : T5 := fun (x1 : List ((Int) × ((Int) × ((Int) × (List UInt8))))) (x7 : List (Option N0)) (x8 : List (List UInt8)) (x9 x13 : Int) (x14 : List UInt8) (x17 : Int) (x162 : Bool) (m5 : Option N0) (m10 : (Int) × ((Int) × ((Int) × (List UInt8)))) (m12 m15 m16 : Option N0) => cutK (run E h k c40) (s5 x1 x7 x8 x9 x13 x14 x17 x162 m5 m10 m12 m15 m16) (K83 k n1)
abbrev s2 : (List ((Int) × ((Int) × ((Int) × (List UInt8))))) → (List (Option N0)) → (List (List UInt8)) → Int → (Option N0) → ST cx := fun (x1 : List ((Int) × ((Int) × ((Int) × (List UInt8))))) (x7 : List (Option N0)) (x8 : List (List UInt8)) (x9 : Int) (m5 : Option N0) => ({ vars := [(1, .v (.slice 70 (.agg (.pair (.int .u8) (.pair (.int .i64) (.pair (.int .i64) .str))))) .ro x1), (5, .addr (.mem 5) []), (7, .v (.slice 58 (.agg (.ptr 0))) (.own .ro) x7), (8, .v (.slice 9 .str) (.own .ro) x8), (9, .v (.int .i64) .ro x9)], scr := [], mems := [(5, ⟨(.agg (.ptr 0)), .ro, m5⟩)] } : ST cx)
noncomputable def u2 (k n1 : Nat) : T2 := fun (x1 : List ((Int) × ((Int) × ((Int) × (List UInt8))))) (x7 : List (Option N0)) (x8 : List (List UInt8)) (x9 : Int) (m5 : Option N0) => uK (run E h k c15) (s2 x1 x7 x8 x9 m5) (K31 k n1)
noncomputable abbrev l2 (k n1 : Nat) : T2 := fun (x1 : List ((Int) × ((Int) × ((Int) × (List UInt8))))) (x7 : List (Option N0)) (x8 : List (List UInt8)) (x9 : Int) (m5 : Option N0) => cutK (run E h k c15) (s2 x1 x7 x8 x9 m5) (K31 k n1)
abbrev s16 : ST cx := ({ vars := [], scr := [], mems := [] } : ST cx)
noncomputable def u16 (k : Nat) : T16 := uK (run E h k c68) s16 (K139 k)
noncomputable abbrev l16 (k : Nat) : T16 := cutK (run E h k c68) s16 (K139 k)
abbrev s15 : (List (Option N0)) → (List (List UInt8)) → Int → ST cx := fun (x7 : List (Option N0)) (x8 : List (List UInt8)) (x19 : Int) => ({ vars := [(7, .v (.slice 58 (.agg (.ptr 0))) (.own .ro) x7), (8, .v (.slice 9 .str) (.own .ro) x8), (19, .v (.int .i64) .ro x19)], scr := [], mems := [] } : ST cx)
noncomputable def u15 (k n15 : Nat) : T15 := fun (x7 : List (Option N0)) (x8 : List (List UInt8)) (x19 : Int) => uK (loopL E h k c70 (K143 k) n15) (s15 x7 x8 x19) ()
noncomputable abbrev l15 (k n15 : Nat) : T15 := fun (x7 : List (Option N0)) (x8 : List (List UInt8)) (x19 : Int) => cutK (loopL E h k c70 (K143 k) n15) (s15 x7 x8 x19) ()
abbrev s3 : (List (Option N0)) → (List (List UInt8)) → ST cx := fun (x7 : List (Option N0)) (x8 : List (List UInt8)) => ({ vars := [(7, .v (.slice 58 (.agg (.ptr 0))) (.own .ro) x7), (8, .v (.slice 9 .str) (.own .ro) x8)], scr := [], mems := [] } : ST cx)
noncomputable def u3 (k : Nat) : T3 := fun (x7 : List (Option N0)) (x8 : List (List UInt8)) => uK (run E h k c12) (s3 x7 x8) (K25 k)
noncomputable abbrev l3 (k : Nat) : T3 := fun (x7 : List (Option N0)) (x8 : List (List UInt8)) => cutK (run E h k c12) (s3 x7 x8) (K25 k)
abbrev s1 : (List ((Int) × ((Int) × ((Int) × (List UInt8))))) → (List (Option N0)) → (List (List UInt8)) → Int → (Option N0) → ST cx := fun (x1 : List ((Int) × ((Int) × ((Int) × (List UInt8))))) (x7 : List (Option N0)) (x8 : List (List UInt8)) (x9 : Int) (m5 : Option N0) => ({ vars := [(1, .v (.slice 70 (.agg (.pair (.int .u8) (.pair (.int .i64) (.pair (.int .i64) .str))))) .ro x1), (5, .addr (.mem 5) []), (7, .v (.slice 58 (.agg (.ptr 0))) (.own .ro) x7), (8, .v (.slice 9 .str) (.own .ro) x8), (9, .v (.int .i64) .ro x9)], scr := [], mems := [(5, ⟨(.agg (.ptr 0)), .ro, m5⟩)] } : ST cx)
noncomputable def u1 (k n1 : Nat) : T1 := fun (x1 : List ((Int) × ((Int) × ((Int) × (List UInt8))))) (x7 : List (Option N0)) (x8 : List (List UInt8)) (x9 : Int) (m5 : Option N0) => uK (loopL E h k c14 (K29 k) n1) (s1 x1 x7 x8 x9 m5) ()
noncomputable abbrev l1 (k n1 : Nat) : T1 := fun (x1 : List ((Int) × ((Int) × ((Int) × (List UInt8))))) (x7 : List (Option N0)) (x8 : List (List UInt8)) (x9 : Int) (m5 : Option N0) => cutK (loopL E h k c14 (K29 k) n1) (s1 x1 x7 x8 x9 m5) ()
noncomputable def u0 (k : Nat) : T0 := fun (x0 : List UInt8) (x1 : List ((Int) × ((Int) × ((Int) × (List UInt8))))) => runOf (S := cx) E h k Try.f7 [.val .str, .val (.slice 70 (.agg (.pair (.int .u8) (.pair (.int .i64) (.pair (.int .i64) .str)))))] .bool .ro (x0, x1, ())
def t10 (f1 : T1) : T10 := fun (x1 : List ((Int) × ((Int) × ((Int) × (List UInt8))))) (x7 : List (Option N0)) (x8 : List (List UInt8)) (x9 : Int) (m5 : Option N0) => 
  (f1 x1 x7 x8 (w64 (x9 + (1 : Int))) m5)
theorem e10 (k n1 : Nat) : u10 k n1 = t10 (l1 k n1) := by kernel_rfl
theorem g10 (k n1 : Nat) : l10 k n1 = u10 k n1 := funext fun _ => funext fun _ => funext fun _ => funext fun _ => funext fun _ => cut_u _ _ _
theorem d10 {x1 y1 : T1} (h1 : x1 = y1) : t10 x1 = t10 y1 := by subst h1; rfl
def p10 (k : Nat) (a1 : T1) : T10 := t10 a1
theorem o10 (k n1 : Nat) (a1 : T1) (h1 : l1 k n1 = a1) : l10 k n1 = p10 k a1 := (Eq.trans (b := u10 k n1) (g10 k n1) (Eq.trans (b := t10 (l1 k n1)) (e10 k n1) (Eq.trans (b := t10 a1) (d10 h1) (by kernel_rfl))))
def t12 (f10 : T10) : T12 := fun (x1 : List ((Int) × ((Int) × ((Int) × (List UInt8))))) (x7 : List (Option N0)) (x8 : List (List UInt8)) (x9 : Int) (x14 : List UInt8) (m5 m12 : Option N0) => 
  (mustR (room x7 ([m12] : List (Option N0))) (mustR (room x8 ([x14] : List (List UInt8))) (f10 x1 (x7 ++ ([m12] : List (Option N0))) (x8 ++ ([x14] : List (List UInt8))) x9 m5)))
theorem e12 (k n1 : Nat) : u12 k n1 = t12 (l10 k n1) := by kernel_rfl
theorem g12 (k n1 : Nat) : l12 k n1 = u12 k n1 := funext fun _ => funext fun _ => funext fun _ => funext fun _ => funext fun _ => funext fun _ => funext fun _ => cut_u _ _ _
theorem d12 {x10 y10 : T10} (h10 : x10 = y10) : t12 x10 = t12 y10 := by subst h10; rfl
def p12 (k : Nat) (a1 : T1) : T12 := t12 (p10 k a1)
theorem o12 (k n1 : Nat) (a1 : T1) (h1 : l1 k n1 = a1) : l12 k n1 = p12 k a1 := (Eq.trans (b := u12 k n1) (g12 k n1) (Eq.trans (b := t12 (l10 k n1)) (e12 k n1) (Eq.trans (b := t12 (p10 k a1)) (d12 (o10 k n1 a1 h1)) (by kernel_rfl))))
def t11 (f12 : T12) : T11 := fun (x1 : List ((Int) × ((Int) × ((Int) × (List UInt8))))) (x7 : List (Option N0)) (x8 : List (List UInt8)) (x9 : Int) (x14 : List UInt8) (x239 : Bool) (m5 m12 : Option N0) => 
  (iteB x239 (some (false, ())) (f12 x1 x7 x8 x9 x14 m5 m12))
theorem e11 (k n1 : Nat) : u11 k n1 = t11 (l12 k n1) := by kernel_rfl
theorem g11 (k n1 : Nat) : l11 k n1 = u11 k n1 := funext fun _ => funext fun _ => funext fun _ => funext fun _ => funext fun _ => funext fun _ => funext fun _ => funext fun _ => cut_u _ _ _
theorem d11 {x12 y12 : T12} (h12 : x12 = y12) : t11 x12 = t11 y12 := by subst h12; rfl
def p11 (k : Nat) (a1 : T1) : T11 := t11 (p12 k a1)
theorem o11 (k n1 : Nat) (a1 : T1) (h1 : l1 k n1 = a1) : l11 k n1 = p11 k a1 := (Eq.trans (b := u11 k n1) (g11 k n1) (Eq.trans (b := t11 (l12 k n1)) (e11 k n1) (Eq.trans (b := t11 (p12 k a1)) (d11 (o12 k n1 a1 h1)) (by kernel_rfl))))
def t9 (f10 : T10) (f11 : T11) : T9 := fun (x1 : List ((Int) × ((Int) × ((Int) × (List UInt8))))) (x7 : List (Option N0)) (x8 : List (List UInt8)) (x9 x13 : Int) (x14 : List UInt8) (m5 : Option N0) (m10 : (Int) × ((Int) × ((Int) × (List UInt8)))) (m12 : Option N0) => 
  (iteB (!decide (x13 = (0 : Int))) (f10 x1 x7 x8 x9 m5) (bindR (s_law02_same (m12, (x14, (m10.2.1, ())))) fun r18 => (iteB (notB r18.1) (f11 x1 x7 x8 x9 x14 true m5 m12) (bindR (s_law02_same (m12, (x14, (m10.2.2.1, ())))) fun r19 => (f11 x1 x7 x8 x9 x14 (notB r19.1) m5 m12)))))
theorem e9 (k n1 : Nat) : u9 k n1 = t9 (l10 k n1) (l11 k n1) := by kernel_rfl
theorem g9 (k n1 : Nat) : l9 k n1 = u9 k n1 := funext fun _ => funext fun _ => funext fun _ => funext fun _ => funext fun _ => funext fun _ => funext fun _ => funext fun _ => funext fun _ => cut_u _ _ _
theorem d9 {x10 y10 : T10} {x11 y11 : T11} (h10 : x10 = y10) (h11 : x11 = y11) : t9 x10 x11 = t9 y10 y11 := by subst h10; subst h11; rfl
def p9 (k : Nat) (a1 : T1) : T9 := t9 (p10 k a1) (p11 k a1)
theorem o9 (k n1 : Nat) (a1 : T1) (h1 : l1 k n1 = a1) : l9 k n1 = p9 k a1 := (Eq.trans (b := u9 k n1) (g9 k n1) (Eq.trans (b := t9 (l10 k n1) (l11 k n1)) (e9 k n1) (Eq.trans (b := t9 (p10 k a1) (p11 k a1)) (d9 (o10 k n1 a1 h1) (o11 k n1 a1 h1)) (by kernel_rfl))))
def t8 (f9 : T9) : T8 := fun (x1 : List ((Int) × ((Int) × ((Int) × (List UInt8))))) (x7 : List (Option N0)) (x8 : List (List UInt8)) (x9 x13 : Int) (x14 : List UInt8) (x223 : Bool) (m5 : Option N0) (m10 : (Int) × ((Int) × ((Int) × (List UInt8)))) (m12 : Option N0) => 
  (iteB x223 (some (false, ())) (f9 x1 x7 x8 x9 x13 x14 m5 m10 m12))
theorem e8 (k n1 : Nat) : u8 k n1 = t8 (l9 k n1) := by kernel_rfl
theorem g8 (k n1 : Nat) : l8 k n1 = u8 k n1 := funext fun _ => funext fun _ => funext fun _ => funext fun _ => funext fun _ => funext fun _ => funext fun _ => funext fun _ => funext fun _ => funext fun _ => cut_u _ _ _
theorem d8 {x9 y9 : T9} (h9 : x9 = y9) : t8 x9 = t8 y9 := by subst h9; rfl
def p8 (k : Nat) (a1 : T1) : T8 := t8 (p9 k a1)
theorem o8 (k n1 : Nat) (a1 : T1) (h1 : l1 k n1 = a1) : l8 k n1 = p8 k a1 := (Eq.trans (b := u8 k n1) (g8 k n1) (Eq.trans (b := t8 (l9 k n1)) (e8 k n1) (Eq.trans (b := t8 (p9 k a1)) (d8 (o9 k n1 a1 h1)) (by kernel_rfl))))
def t7 (f8 : T8) : T7 := fun (x1 : List ((Int) × ((Int) × ((Int) × (List UInt8))))) (x6 : Int) (x7 : List (Option N0)) (x8 : List (List UInt8)) (x9 x13 : Int) (x14 : List UInt8) (m5 : Option N0) (m10 : (Int) × ((Int) × ((Int) × (List UInt8)))) (m12 : Option N0) => 
  (iteB (!decide (x6 = x13)) (f8 x1 x7 x8 x9 x13 x14 true m5 m10 m12) (iteB (!decide (x13 = (0 : Int))) (bindR (s_rope_Rope_Len (m12, ())) fun r17 => (f8 x1 x7 x8 x9 x13 x14 (!decide (r17.1 = (0 : Int))) m5 m10 m12)) (f8 x1 x7 x8 x9 x13 x14 false m5 m10 m12)))
theorem e7 (k n1 : Nat) : u7 k n1 = t7 (l8 k n1) := by kernel_rfl
theorem g7 (k n1 : Nat) : l7 k n1 = u7 k n1 := funext fun _ => funext fun _ => funext fun _ => funext fun _ => funext fun _ => funext fun _ => funext fun _ => funext fun _ => funext fun _ => funext fun _ => cut_u _ _ _
theorem d7 {x8 y8 : T8} (h8 : x8 = y8) : t7 x8 = t7 y8 := by subst h8; rfl
def p7 (k : Nat) (a1 : T1) : T7 := t7 (p8 k a1)
theorem o7 (k n1 : Nat) (a1 : T1) (h1 : l1 k n1 = a1) : l7 k n1 = p7 k a1 := (Eq.trans (b := u7 k n1) (g7 k n1) (Eq.trans (b := t7 (l8 k n1)) (e7 k n1) (Eq.trans (b := t7 (p8 k a1)) (d7 (o8 k n1 a1 h1)) (by kernel_rfl))))
def t4 (f7 : T7) : T4 := fun (x1 : List ((Int) × ((Int) × ((Int) × (List UInt8))))) (x6 : Int) (x7 : List (Option N0)) (x8 : List (List UInt8)) (x9 x13 : Int) (x14 : List UInt8) (m5 : Option N0) (m10 : (Int) × ((Int) × ((Int) × (List UInt8)))) (m12 : Option N0) => 
  (iteB (decide ((4000 : Int) < ((List.length x14 : Nat) : Int))) (f7 x1 x6 x7 x8 x9 (4 : Int) x14 m5 m10 m12) (f7 x1 x6 x7 x8 x9 x13 x14 m5 m10 m12))
theorem e4 (k n1 : Nat) : u4 k n1 = t4 (l7 k n1) := by kernel_rfl
theorem g4 (k n1 : Nat) : l4 k n1 = u4 k n1 := funext fun _ => funext fun _ => funext fun _ => funext fun _ => funext fun _ => funext fun _ => funext fun _ => funext fun _ => funext fun _ => funext fun _ => cut_u _ _ _
theorem d4 {x7 y7 : T7} (h7 : x7 = y7) : t4 x7 = t4 y7 := by subst h7; rfl
def p4 (k : Nat) (a1 : T1) : T4 := t4 (p7 k a1)
theorem o4 (k n1 : Nat) (a1 : T1) (h1 : l1 k n1 = a1) : l4 k n1 = p4 k a1 := (Eq.trans (b := u4 k n1) (g4 k n1) (Eq.trans (b := t4 (l7 k n1)) (e4 k n1) (Eq.trans (b := t4 (p7 k a1)) (d4 (o7 k n1 a1 h1)) (by kernel_rfl))))
def t14 (f4 : T4) : T14 := fun (x1 : List ((Int) × ((Int) × ((Int) × (List UInt8))))) (x7 : List (Option N0)) (x8 : List (List UInt8)) (x9 x13 : Int) (x14 : List UInt8) (m5 : Option N0) (m10 : (Int) × ((Int) × ((Int) × (List UInt8)))) (m12 : Option N0) => 
  (f4 x1 x13 x7 x8 x9 x13 x14 m5 m10 m12)
theorem e14 (k n1 : Nat) : u14 k n1 = t14 (l4 k n1) := by kernel_rfl
theorem g14 (k n1 : Nat) : l14 k n1 = u14 k n1 := funext fun _ => funext fun _ => funext fun _ => funext fun _ => funext fun _ => funext fun _ => funext fun _ => funext fun _ => funext fun _ => cut_u _ _ _
theorem d14 {x4 y4 : T4} (h4 : x4 = y4) : t14 x4 = t14 y4 := by subst h4; rfl
def p14 (k : Nat) (a1 : T1) : T14 := t14 (p4 k a1)
theorem o14 (k n1 : Nat) (a1 : T1) (h1 : l1 k n1 = a1) : l14 k n1 = p14 k a1 := (Eq.trans (b := u14 k n1) (g14 k n1) (Eq.trans (b := t14 (l4 k n1)) (e14 k n1) (Eq.trans (b := t14 (p4 k a1)) (d14 (o4 k n1 a1 h1)) (by kernel_rfl))))
def t13 (f14 : T14) : T13 := fun (x1 : List ((Int) × ((Int) × ((Int) × (List UInt8))))) (x7 : List (Option N0)) (x8 : List (List UInt8)) (x9 x13 : Int) (x14 : List UInt8) (x181 : Bool) (m5 : Option N0) (m10 : (Int) × ((Int) × ((Int) × (List UInt8)))) (m12 : Option N0) => 
  (iteB x181 (some (false, ())) (f14 x1 x7 x8 x9 x13 x14 m5 m10 m12))
theorem e13 (k n1 : Nat) : u13 k n1 = t13 (l14 k n1) := by kernel_rfl
theorem g13 (k n1 : Nat) : l13 k n1 = u13 k n1 := funext fun _ => funext fun _ => funext fun _ => funext fun _ => funext fun _ => funext fun _ => funext fun _ => funext fun _ => funext fun _ => funext fun _ => cut_u _ _ _
theorem d13 {x14 y14 : T14} (h14 : x14 = y14) : t13 x14 = t13 y14 := by subst h14; rfl
def p13 (k : Nat) (a1 : T1) : T13 := t13 (p14 k a1)
theorem o13 (k n1 : Nat) (a1 : T1) (h1 : l1 k n1 = a1) : l13 k n1 = p13 k a1 := (Eq.trans (b := u13 k n1) (g13 k n1) (Eq.trans (b := t13 (l14 k n1)) (e13 k n1) (Eq.trans (b := t13 (p14 k a1)) (d13 (o14 k n1 a1 h1)) (by kernel_rfl))))
def t6 (f13 : T13) (f4 : T4) : T6 := fun (x1 : List ((Int) × ((Int) × ((Int) × (List UInt8))))) (x7 : List (Option N0)) (x8 : List (List UInt8)) (x9 x13 : Int) (x14 : List UInt8) (x17 : Int) (m5 : Option N0) (m10 : (Int) × ((Int) × ((Int) × (List UInt8)))) (m12 m15 m16 : Option N0) => 
  (iteB (!decide (x17 = x13)) (some (false, ())) (bindR (s_rope_Join (([m16, m15] : List (Option N0)), ())) fun r20 => (iteB (!decide (x13 = (0 : Int))) (bindR (s_rope_Rope_Len (r20.1.1, ())) fun r21 => (iteB (!decide (r21.1 = (0 : Int))) (f13 x1 x7 x8 x9 x13 x14 true m5 m10 r20.1.1) (f13 x1 x7 x8 x9 x13 x14 (!decide (r20.1.2 = (0 : Int))) m5 m10 r20.1.1))) (f4 x1 r20.1.2 x7 x8 x9 x13 x14 m5 m10 r20.1.1))))
theorem e6 (k n1 : Nat) : u6 k n1 = t6 (l13 k n1) (l4 k n1) := by kernel_rfl
theorem g6 (k n1 : Nat) : l6 k n1 = u6 k n1 := funext fun _ => funext fun _ => funext fun _ => funext fun _ => funext fun _ => funext fun _ => funext fun _ => funext fun _ => funext fun _ => funext fun _ => funext fun _ => funext fun _ => cut_u _ _ _
theorem d6 {x13 y13 : T13} {x4 y4 : T4} (h13 : x13 = y13) (h4 : x4 = y4) : t6 x13 x4 = t6 y13 y4 := by subst h13; subst h4; rfl
def p6 (k : Nat) (a1 : T1) : T6 := t6 (p13 k a1) (p4 k a1)
theorem o6 (k n1 : Nat) (a1 : T1) (h1 : l1 k n1 = a1) : l6 k n1 = p6 k a1 := (Eq.trans (b := u6 k n1) (g6 k n1) (Eq.trans (b := t6 (l13 k n1) (l4 k n1)) (e6 k n1) (Eq.trans (b := t6 (p13 k a1) (p4 k a1)) (d6 (o13 k n1 a1 h1) (o4 k n1 a1 h1)) (by kernel_rfl))))
def t5 (f6 : T6) : T5 := fun (x1 : List ((Int) × ((Int) × ((Int) × (List UInt8))))) (x7 : List (Option N0)) (x8 : List (List UInt8)) (x9 x13 : Int) (x14 : List UInt8) (x17 : Int) (x162 : Bool) (m5 : Option N0) (m10 : (Int) × ((Int) × ((Int) × (List UInt8)))) (m12 m15 m16 : Option N0) => 
  (iteB x162 (some (false, ())) (f6 x1 x7 x8 x9 x13 x14 x17 m5 m10 m12 m15 m16))
theorem e5 (k n1 : Nat) : u5 k n1 = t5 (l6 k n1) := by kernel_rfl
theorem g5 (k n1 : Nat) : l5 k n1 = u5 k n1 := funext fun _ => funext fun _ => funext fun _ => funext fun _ => funext fun _ => funext fun _ => funext fun _ => funext fun _ => funext fun _ => funext fun _ => funext fun _ => funext fun _ => funext fun _ => cut_u _ _ _
theorem d5 {x6 y6 : T6} (h6 : x6 = y6) : t5 x6 = t5 y6 := by subst h6; rfl
def p5 (k : Nat) (a1 : T1) : T5 := t5 (p6 k a1)
theorem o5 (k n1 : Nat) (a1 : T1) (h1 : l1 k n1 = a1) : l5 k n1 = p5 k a1 := (Eq.trans (b := u5 k n1) (g5 k n1) (Eq.trans (b := t5 (l6 k n1)) (e5 k n1) (Eq.trans (b := t5 (p6 k a1)) (d5 (o6 k n1 a1 h1)) (by kernel_rfl))))
def t2 (f4 : T4) (f5 : T5) (f6 : T6) : T2 := fun (x1 : List ((Int) × ((Int) × ((Int) × (List UInt8))))) (x7 : List (Option N0)) (x8 : List (List UInt8)) (x9 : Int) (m5 : Option N0) => 
  (withinR x9 (List.length x1) fun q3 => (iteB (decide ((2000 : Int) < ((List.length (List.getD x1 q3 ((0 : Int), ((0 : Int), ((0 : Int), ([] : List UInt8))))).2.2.2 : Nat) : Int))) (some (true, ())) (withinR (w64 (((List.length x8 : Nat) : Int) - (1 : Int))) (List.length x8) fun q4 => (withinR (w64 (((List.length x7 : Nat) : Int) - (1 : Int))) (List.length x7) fun q5 => (iteB (decide ((Int.tmod (List.getD x1 q3 ((0 : Int), ((0 : Int), ((0 : Int), ([] : List UInt8))))).1 (5 : Int)) = (2 : Int))) (bindR (s_rope_Rope_Take ((List.getD x7 q5 none), ((List.getD x1 q3 ((0 : Int), ((0 : Int), ((0 : Int), ([] : List UInt8))))).2.1, ((List.getD x1 q3 ((0 : Int), ((0 : Int), ((0 : Int), ([] : List UInt8))))).2.2.1, ())))) fun r6 => (bindR (s_ref02_Span ((List.getD x8 q4 ([] : List UInt8)), ((List.getD x1 q3 ((0 : Int), ((0 : Int), ((0 : Int), ([] : List UInt8))))).2.1, ((List.getD x1 q3 ((0 : Int), ((0 : Int), ((0 : Int), ([] : List UInt8))))).2.2.1, ())))) fun r7 => (iteB r7.1 (mustR (decide (0 ≤ (List.getD x1 q3 ((0 : Int), ((0 : Int), ((0 : Int), ([] : List UInt8))))).2.1)) (mustR (decide ((List.getD x1 q3 ((0 : Int), ((0 : Int), ((0 : Int), ([] : List UInt8))))).2.1 ≤ (((List.length (List.getD x8 q4 ([] : List UInt8))) : Nat) : Int))) (mustR (decide (0 ≤ (List.getD x1 q3 ((0 : Int), ((0 : Int), ((0 : Int), ([] : List UInt8))))).2.2.1)) (mustR (decide ((List.getD x1 q3 ((0 : Int), ((0 : Int), ((0 : Int), ([] : List UInt8))))).2.2.1 ≤ (((List.length (List.getD x8 q4 ([] : List UInt8))) : Nat) : Int))) (mustR (decide (List.length (List.drop 0 (List.take (Int.toNat (List.getD x1 q3 ((0 : Int), ((0 : Int), ((0 : Int), ([] : List UInt8))))).2.1) (List.getD x8 q4 ([] : List UInt8)))) + List.length (List.drop (Int.toNat (List.getD x1 q3 ((0 : Int), ((0 : Int), ((0 : Int), ([] : List UInt8))))).2.2.1) (List.take (List.length (List.getD x8 q4 ([] : List UInt8))) (List.getD x8 q4 ([] : List UInt8)))) ≤ 140737488355328)) (f4 x1 r6.1.2 x7 x8 x9 (0 : Int) ((List.drop 0 (List.take (Int.toNat (List.getD x1 q3 ((0 : Int), ((0 : Int), ((0 : Int), ([] : List UInt8))))).2.1) (List.getD x8 q4 ([] : List UInt8)))) ++ (List.drop (Int.toNat (List.getD x1 q3 ((0 : Int), ((0 : Int), ((0 : Int), ([] : List UInt8))))).2.2.1) (List.take (List.length (List.getD x8 q4 ([] : List UInt8))) (List.getD x8 q4 ([] : List UInt8))))) (List.getD x7 q5 none) (List.getD x1 q3 ((0 : Int), ((0 : Int), ((0 : Int), ([] : List UInt8))))) r6.1.1)))))) (f4 x1 r6.1.2 x7 x8 x9 (3 : Int) ([] : List UInt8) (List.getD x7 q5 none) (List.getD x1 q3 ((0 : Int), ((0 : Int), ((0 : Int), ([] : List UInt8))))) r6.1.1)))) (iteB (decide ((Int.tmod (List.getD x1 q3 ((0 : Int), ((0 : Int), ((0 : Int), ([] : List UInt8))))).1 (5 : Int)) = (3 : Int))) (bindR (s_rope_Rope_Split ((List.getD x7 q5 none), ((List.getD x1 q3 ((0 : Int), ((0 : Int), ((0 : Int), ([] : List UInt8))))).2.1, ()))) fun r8 => (bindR (s_ref02_Span ((List.getD x8 q4 ([] : List UInt8)), ((List.getD x1 q3 ((0 : Int), ((0 : Int), ((0 : Int), ([] : List UInt8))))).2.1, (((List.length (List.getD x8 q4 ([] : List UInt8)) : Nat) : Int), ())))) fun r9 => (iteB r9.1 (mustR (decide (0 ≤ (List.getD x1 q3 ((0 : Int), ((0 : Int), ((0 : Int), ([] : List UInt8))))).2.1)) (mustR (decide ((List.getD x1 q3 ((0 : Int), ((0 : Int), ((0 : Int), ([] : List UInt8))))).2.1 ≤ (((List.length (List.getD x8 q4 ([] : List UInt8))) : Nat) : Int))) (mustR (decide (0 ≤ (List.getD x1 q3 ((0 : Int), ((0 : Int), ((0 : Int), ([] : List UInt8))))).2.1)) (mustR (decide ((List.getD x1 q3 ((0 : Int), ((0 : Int), ((0 : Int), ([] : List UInt8))))).2.1 ≤ (((List.length (List.getD x8 q4 ([] : List UInt8))) : Nat) : Int))) (mustR (decide (List.length (List.drop (Int.toNat (List.getD x1 q3 ((0 : Int), ((0 : Int), ((0 : Int), ([] : List UInt8))))).2.1) (List.take (List.length (List.getD x8 q4 ([] : List UInt8))) (List.getD x8 q4 ([] : List UInt8)))) + List.length (List.drop 0 (List.take (Int.toNat (List.getD x1 q3 ((0 : Int), ((0 : Int), ((0 : Int), ([] : List UInt8))))).2.1) (List.getD x8 q4 ([] : List UInt8)))) ≤ 140737488355328)) (mustR (decide (0 ≤ (List.getD x1 q3 ((0 : Int), ((0 : Int), ((0 : Int), ([] : List UInt8))))).2.1)) (mustR (decide ((List.getD x1 q3 ((0 : Int), ((0 : Int), ((0 : Int), ([] : List UInt8))))).2.1 ≤ (((List.length (List.getD x8 q4 ([] : List UInt8))) : Nat) : Int))) (bindR (s_Text (r8.1.1, ())) fun r10 => (iteB (!(decide (r10.1 = (List.drop 0 (List.take (Int.toNat (List.getD x1 q3 ((0 : Int), ((0 : Int), ((0 : Int), ([] : List UInt8))))).2.1) (List.getD x8 q4 ([] : List UInt8))))))) (f5 x1 x7 x8 x9 (0 : Int) ((List.drop (Int.toNat (List.getD x1 q3 ((0 : Int), ((0 : Int), ((0 : Int), ([] : List UInt8))))).2.1) (List.take (List.length (List.getD x8 q4 ([] : List UInt8))) (List.getD x8 q4 ([] : List UInt8)))) ++ (List.drop 0 (List.take (Int.toNat (List.getD x1 q3 ((0 : Int), ((0 : Int), ((0 : Int), ([] : List UInt8))))).2.1) (List.getD x8 q4 ([] : List UInt8))))) r8.1.2.2 true (List.getD x7 q5 none) (List.getD x1 q3 ((0 : Int), ((0 : Int), ((0 : Int), ([] : List UInt8))))) none r8.1.1 r8.1.2.1) (mustR (decide (0 ≤ (List.getD x1 q3 ((0 : Int), ((0 : Int), ((0 : Int), ([] : List UInt8))))).2.1)) (mustR (decide ((List.getD x1 q3 ((0 : Int), ((0 : Int), ((0 : Int), ([] : List UInt8))))).2.1 ≤ (((List.length (List.getD x8 q4 ([] : List UInt8))) : Nat) : Int))) (bindR (s_Text (r8.1.2.1, ())) fun r11 => (f5 x1 x7 x8 x9 (0 : Int) ((List.drop (Int.toNat (List.getD x1 q3 ((0 : Int), ((0 : Int), ((0 : Int), ([] : List UInt8))))).2.1) (List.take (List.length (List.getD x8 q4 ([] : List UInt8))) (List.getD x8 q4 ([] : List UInt8)))) ++ (List.drop 0 (List.take (Int.toNat (List.getD x1 q3 ((0 : Int), ((0 : Int), ((0 : Int), ([] : List UInt8))))).2.1) (List.getD x8 q4 ([] : List UInt8))))) r8.1.2.2 (!(decide (r11.1 = (List.drop (Int.toNat (List.getD x1 q3 ((0 : Int), ((0 : Int), ((0 : Int), ([] : List UInt8))))).2.1) (List.take (List.length (List.getD x8 q4 ([] : List UInt8))) (List.getD x8 q4 ([] : List UInt8))))))) (List.getD x7 q5 none) (List.getD x1 q3 ((0 : Int), ((0 : Int), ((0 : Int), ([] : List UInt8))))) none r8.1.1 r8.1.2.1))))))))))))) (f6 x1 x7 x8 x9 (3 : Int) ([] : List UInt8) r8.1.2.2 (List.getD x7 q5 none) (List.getD x1 q3 ((0 : Int), ((0 : Int), ((0 : Int), ([] : List UInt8))))) none r8.1.1 r8.1.2.1)))) (iteB (decide ((Int.tmod (List.getD x1 q3 ((0 : Int), ((0 : Int), ((0 : Int), ([] : List UInt8))))).1 (5 : Int)) = (4 : Int))) (mustR (!decide ((IntKind.wrap .u64 (((List.length x7 : Nat) : Int))) = 0)) (withinR (w64 ((Int.tmod (IntKind.wrap .u64 ((List.getD x1 q3 ((0 : Int), ((0 : Int), ((0 : Int), ([] : List UInt8))))).2.1)) (IntKind.wrap .u64 (((List.length x7 : Nat) : Int)))))) (List.length x7) fun q12 => (bindR (s_rope_Join (([(List.getD x7 q5 none), (List.getD x7 q12 none)] : List (Option N0)), ())) fun r13 => (withinR (w64 ((Int.tmod (IntKind.wrap .u64 ((List.getD x1 q3 ((0 : Int), ((0 : Int), ((0 : Int), ([] : List UInt8))))).2.1)) (IntKind.wrap .u64 (((List.length x7 : Nat) : Int)))))) (List.length x8) fun q14 => (mustR (decide (List.length (List.getD x8 q4 ([] : List UInt8)) + List.length (List.getD x8 q14 ([] : List UInt8)) ≤ 140737488355328)) (f4 x1 r13.1.2 x7 x8 x9 (0 : Int) ((List.getD x8 q4 ([] : List UInt8)) ++ (List.getD x8 q14 ([] : List UInt8))) (List.getD x7 q5 none) (List.getD x1 q3 ((0 : Int), ((0 : Int), ((0 : Int), ([] : List UInt8))))) r13.1.1)))))) (bindR (s_rope_Rope_Put ((List.getD x7 q5 none), ((List.getD x1 q3 ((0 : Int), ((0 : Int), ((0 : Int), ([] : List UInt8))))).2.1, ((List.getD x1 q3 ((0 : Int), ((0 : Int), ((0 : Int), ([] : List UInt8))))).2.2.2, ())))) fun r15 => (bindR (s_ref02_Span ((List.getD x8 q4 ([] : List UInt8)), ((List.getD x1 q3 ((0 : Int), ((0 : Int), ((0 : Int), ([] : List UInt8))))).2.1, (((List.length (List.getD x8 q4 ([] : List UInt8)) : Nat) : Int), ())))) fun r16 => (iteB r16.1 (mustR (decide (0 ≤ (List.getD x1 q3 ((0 : Int), ((0 : Int), ((0 : Int), ([] : List UInt8))))).2.1)) (mustR (decide ((List.getD x1 q3 ((0 : Int), ((0 : Int), ((0 : Int), ([] : List UInt8))))).2.1 ≤ (((List.length (List.getD x8 q4 ([] : List UInt8))) : Nat) : Int))) (mustR (decide (List.length (List.drop 0 (List.take (Int.toNat (List.getD x1 q3 ((0 : Int), ((0 : Int), ((0 : Int), ([] : List UInt8))))).2.1) (List.getD x8 q4 ([] : List UInt8)))) + List.length (List.getD x1 q3 ((0 : Int), ((0 : Int), ((0 : Int), ([] : List UInt8))))).2.2.2 ≤ 140737488355328)) (mustR (decide (0 ≤ (List.getD x1 q3 ((0 : Int), ((0 : Int), ((0 : Int), ([] : List UInt8))))).2.1)) (mustR (decide ((List.getD x1 q3 ((0 : Int), ((0 : Int), ((0 : Int), ([] : List UInt8))))).2.1 ≤ (((List.length (List.getD x8 q4 ([] : List UInt8))) : Nat) : Int))) (mustR (decide (List.length ((List.drop 0 (List.take (Int.toNat (List.getD x1 q3 ((0 : Int), ((0 : Int), ((0 : Int), ([] : List UInt8))))).2.1) (List.getD x8 q4 ([] : List UInt8)))) ++ (List.getD x1 q3 ((0 : Int), ((0 : Int), ((0 : Int), ([] : List UInt8))))).2.2.2) + List.length (List.drop (Int.toNat (List.getD x1 q3 ((0 : Int), ((0 : Int), ((0 : Int), ([] : List UInt8))))).2.1) (List.take (List.length (List.getD x8 q4 ([] : List UInt8))) (List.getD x8 q4 ([] : List UInt8)))) ≤ 140737488355328)) (f4 x1 r15.1.2 x7 x8 x9 (0 : Int) (((List.drop 0 (List.take (Int.toNat (List.getD x1 q3 ((0 : Int), ((0 : Int), ((0 : Int), ([] : List UInt8))))).2.1) (List.getD x8 q4 ([] : List UInt8)))) ++ (List.getD x1 q3 ((0 : Int), ((0 : Int), ((0 : Int), ([] : List UInt8))))).2.2.2) ++ (List.drop (Int.toNat (List.getD x1 q3 ((0 : Int), ((0 : Int), ((0 : Int), ([] : List UInt8))))).2.1) (List.take (List.length (List.getD x8 q4 ([] : List UInt8))) (List.getD x8 q4 ([] : List UInt8))))) (List.getD x7 q5 none) (List.getD x1 q3 ((0 : Int), ((0 : Int), ((0 : Int), ([] : List UInt8))))) r15.1.1))))))) (f4 x1 r15.1.2 x7 x8 x9 (3 : Int) ([] : List UInt8) (List.getD x7 q5 none) (List.getD x1 q3 ((0 : Int), ((0 : Int), ((0 : Int), ([] : List UInt8))))) r15.1.1)))))))))))
theorem e2 (k n1 : Nat) : u2 k n1 = t2 (l4 k n1) (l5 k n1) (l6 k n1) := by kernel_rfl
theorem g2 (k n1 : Nat) : l2 k n1 = u2 k n1 := funext fun _ => funext fun _ => funext fun _ => funext fun _ => funext fun _ => cut_u _ _ _
theorem d2 {x4 y4 : T4} {x5 y5 : T5} {x6 y6 : T6} (h4 : x4 = y4) (h5 : x5 = y5) (h6 : x6 = y6) : t2 x4 x5 x6 = t2 y4 y5 y6 := by subst h4; subst h5; subst h6; rfl
def p2 (k : Nat) (a1 : T1) : T2 := t2 (p4 k a1) (p5 k a1) (p6 k a1)
theorem o2 (k n1 : Nat) (a1 : T1) (h1 : l1 k n1 = a1) : l2 k n1 = p2 k a1 := (Eq.trans (b := u2 k n1) (g2 k n1) (Eq.trans (b := t2 (l4 k n1) (l5 k n1) (l6 k n1)) (e2 k n1) (Eq.trans (b := t2 (p4 k a1) (p5 k a1) (p6 k a1)) (d2 (o4 k n1 a1 h1) (o5 k n1 a1 h1) (o6 k n1 a1 h1)) (by kernel_rfl))))
def t16 : T16 := 
  (some (true, ()))
theorem e16 (k : Nat) : u16 k = t16 := by kernel_rfl
theorem g16 (k : Nat) : l16 k = u16 k := cut_u _ _ _
def p16 (k : Nat) : T16 := t16
theorem o16 (k : Nat) : l16 k = p16 k := (Eq.trans (b := u16 k) (g16 k) (Eq.trans (b := t16) (e16 k) (by kernel_rfl)))
def t15 (f15 : T15) (f16 : T16) : T15 := fun (x7 : List (Option N0)) (x8 : List (List UInt8)) (x19 : Int) => 
  (iteB (decide (x19 < ((List.length x7 : Nat) : Int))) (withinR x19 (List.length x7) fun q22 => (withinR x19 (List.length x8) fun q23 => (bindR (s_Text ((List.getD x7 q22 none), ())) fun r24 => (iteB (!(decide (r24.1 = (List.getD x8 q23 ([] : List UInt8))))) (some (false, ())) (f15 x7 x8 (w64 (x19 + (1 : Int)))))))) f16)
theorem e15 (k n15 : Nat) : u15 k (n15 + 1) = t15 (l15 k n15) (l16 k) := by kernel_rfl
theorem g15 (k n15 : Nat) : l15 k (n15 + 1) = u15 k (n15 + 1) := funext fun _ => funext fun _ => funext fun _ => cut_u _ _ _
theorem d15 {x15 y15 : T15} {x16 y16 : T16} (h15 : x15 = y15) (h16 : x16 = y16) : t15 x15 x16 = t15 y15 y16 := by subst h15; subst h16; rfl
def p15 (k : Nat) : Nat → T15
  | 0 => fun _ _ _ => none
  | n15 + 1 => t15 (p15 k n15) (p16 k)
theorem o15 (k : Nat) : ∀ n15, l15 k n15 = p15 k n15 := by
  intro n15
  induction n15 with
  | zero => kernel_rfl
  | succ n15 ih => exact (Eq.trans (b := u15 k (n15 + 1)) (g15 k n15) (Eq.trans (b := t15 (l15 k n15) (l16 k)) (e15 k n15) (Eq.trans (b := t15 (p15 k n15) (p16 k)) (d15 ih (o16 k)) (by kernel_rfl))))
def t3 (f15 : T15) : T3 := fun (x7 : List (Option N0)) (x8 : List (List UInt8)) => 
  (f15 x7 x8 (0 : Int))
theorem e3 (k : Nat) : u3 k = t3 (l15 k k) := by kernel_rfl
theorem g3 (k : Nat) : l3 k = u3 k := funext fun _ => funext fun _ => cut_u _ _ _
theorem d3 {x15 y15 : T15} (h15 : x15 = y15) : t3 x15 = t3 y15 := by subst h15; rfl
def p3 (k : Nat) : T3 := t3 (p15 k k)
theorem o3 (k : Nat) : l3 k = p3 k := (Eq.trans (b := u3 k) (g3 k) (Eq.trans (b := t3 (l15 k k)) (e3 k) (Eq.trans (b := t3 (p15 k k)) (d3 (o15 k k)) (by kernel_rfl))))
def t1 (f2 : T2) (f3 : T3) : T1 := fun (x1 : List ((Int) × ((Int) × ((Int) × (List UInt8))))) (x7 : List (Option N0)) (x8 : List (List UInt8)) (x9 : Int) (m5 : Option N0) => 
  (iteB (decide (x9 < ((List.length x1 : Nat) : Int))) (iteB (decide (x9 < (30 : Int))) (f2 x1 x7 x8 x9 m5) (f3 x7 x8)) (f3 x7 x8))
theorem e1 (k n1 : Nat) : u1 k (n1 + 1) = t1 (l2 k n1) (l3 k) := by kernel_rfl
theorem g1 (k n1 : Nat) : l1 k (n1 + 1) = u1 k (n1 + 1) := funext fun _ => funext fun _ => funext fun _ => funext fun _ => funext fun _ => cut_u _ _ _
theorem d1 {x2 y2 : T2} {x3 y3 : T3} (h2 : x2 = y2) (h3 : x3 = y3) : t1 x2 x3 = t1 y2 y3 := by subst h2; subst h3; rfl
def p1 (k : Nat) : Nat → T1
  | 0 => fun _ _ _ _ _ => none
  | n1 + 1 => t1 (p2 k (p1 k n1)) (p3 k)
theorem o1 (k : Nat) : ∀ n1, l1 k n1 = p1 k n1 := by
  intro n1
  induction n1 with
  | zero => kernel_rfl
  | succ n1 ih => exact (Eq.trans (b := u1 k (n1 + 1)) (g1 k n1) (Eq.trans (b := t1 (l2 k n1) (l3 k)) (e1 k n1) (Eq.trans (b := t1 (p2 k (p1 k n1)) (p3 k)) (d1 (o2 k n1 (p1 k n1) ih) (o3 k)) (by kernel_rfl))))
def t0 (f1 : T1) : T0 := fun (x0 : List UInt8) (x1 : List ((Int) × ((Int) × ((Int) × (List UInt8))))) => 
  (bindR (s_law02_alive ()) fun r1 => (iteB (notB r1.1) (some (false, ())) (iteB (decide ((2000 : Int) < ((List.length x0 : Nat) : Int))) (some (true, ())) (bindR (s_rope_Of (x0, ())) fun r2 => (iteB (!decide (r2.1.2 = (0 : Int))) (some (false, ())) (f1 x1 ([r2.1.1] : List (Option N0)) ([x0] : List (List UInt8)) (0 : Int) r2.1.1))))))
theorem e0 (k : Nat) : u0 k = t0 (l1 k k) := by kernel_rfl
theorem d0 {x1 y1 : T1} (h1 : x1 = y1) : t0 x1 = t0 y1 := by subst h1; rfl
def p0 (k : Nat) : T0 := t0 (p1 k k)
theorem o0 (k : Nat) : u0 k = p0 k := (Eq.trans (b := t0 (l1 k k)) (e0 k) (Eq.trans (b := t0 (p1 k k)) (d0 (o1 k k)) (by kernel_rfl)))
end law02_RopePlays
end
end Go.Proofs.Ytdifekkamjoepaa.Vm.Rp
