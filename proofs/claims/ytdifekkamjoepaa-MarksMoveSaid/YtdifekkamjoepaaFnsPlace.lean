/- What the functions of places compute, as plain functions; that they do. -/
import Derived.Test.YtdifekkamjoepaaFns
namespace Go.Proofs.Ytdifekkamjoepaa.Vm.Rp
open Go Go.Proofs.Ytdifekkamjoepaa.Vm Go.Proofs
set_option linter.unusedVariables false
set_option maxRecDepth 100000
noncomputable section
namespace ref01_Edge
noncomputable def E : Env cx := { tys := tys, fs := fsOf [(103, F_ref01_Follower)] }
abbrev R := Option ((Bool) × (Unit))
abbrev C := Exit → ST cx → R
noncomputable def b : Code := bodyC Try.f52
noncomputable def h : Hint := { vs := [0, 1, 4], nil := [], cuts := [(2, ([0, 1, 12], []), ([0, 1], [])), (3, ([0, 1], []), ([0, 1], []))], ret := ([4], []), ords := [] }
noncomputable def K0 : C := fin (S := cx) E Try.f52.results.toList .bool .ro [] []
noncomputable def c0 : Code := subC b [1]
noncomputable def K1 (k : Nat) : C := outD h c0 K0
noncomputable def K2 (k : Nat) : C := seqC E h k c0 K0
noncomputable def c1 : Code := subC b [1, 1]
noncomputable def K3 (k : Nat) : C := outD h c1 (K1 k)
noncomputable def K4 (k : Nat) : C := seqC E h k c1 (K1 k)
noncomputable def c2 : Code := subC b [1, 0, 1]
noncomputable def K5 (k : Nat) : C := outD h c2 (K4 k)
noncomputable def K6 (k : Nat) : C := seqC E h k c2 (K4 k)
noncomputable def c3 : Code := subC b [1, 0, 1, 0, 1]
noncomputable def K7 (k : Nat) : C := outD h c3 (K5 k)
noncomputable def K8 (k : Nat) : C := seqC E h k c3 (K5 k)
noncomputable def c4 : Code := subC b [1, 1, 1]
noncomputable def K9 (k : Nat) : C := outD h c4 (K3 k)
noncomputable def K10 (k : Nat) : C := seqC E h k c4 (K3 k)
abbrev T2 := (List UInt8) → Int → R
abbrev T1 := (List UInt8) → Int → Bool → R
abbrev T0 := (List UInt8) → Int → R
abbrev s2 : (List UInt8) → Int → ST cx := fun (x0 : List UInt8) (x1 : Int) => ({ vars := [(0, .v .str .ro x0), (1, .v (.int .i64) .ro x1)], scr := [], mems := [] } : ST cx)
noncomputable def u2 (k : Nat) : T2 := fun (x0 : List UInt8) (x1 : Int) => uK (run E h k c1) (s2 x0 x1) (K3 k)
noncomputable abbrev l2 (k : Nat) : T2 := fun (x0 : List UInt8) (x1 : Int) => cutK (run E h k c1) (s2 x0 x1) (K3 k)
abbrev s1 : (List UInt8) → Int → Bool → ST cx := fun (x0 : List UInt8) (x1 : Int) (x12 : Bool) => ({ vars := [(0, .v .str .ro x0), (1, .v (.int .i64) .ro x1), (12, .v .bool .ro x12)], scr := [], mems := [] } : ST cx)
noncomputable def u1 (k : Nat) : T1 := fun (x0 : List UInt8) (x1 : Int) (x12 : Bool) => uK (run E h k c2) (s1 x0 x1 x12) (K5 k)
noncomputable abbrev l1 (k : Nat) : T1 := fun (x0 : List UInt8) (x1 : Int) (x12 : Bool) => cutK (run E h k c2) (s1 x0 x1 x12) (K5 k)
noncomputable def u0 (k : Nat) : T0 := fun (x0 : List UInt8) (x1 : Int) => runOf (S := cx) E h k Try.f52 [.val .str, .val (.int .i64)] .bool .ro (x0, x1, ())
def t2 : T2 := fun (x0 : List UInt8) (x1 : Int) => 
  (iteB (decide (x1 = ((List.length x0 : Nat) : Int))) (some (true, ())) (withinR x1 (List.length x0) fun q1 => (bindR (s_ref01_Follower ((byteAt x0 q1), ())) fun r2 => (some ((notB r2.1), ())))))
theorem e2 (k : Nat) : u2 k = t2 := by kernel_rfl
theorem g2 (k : Nat) : l2 k = u2 k := funext fun _ => funext fun _ => cut_u _ _ _
def p2 (k : Nat) : T2 := t2
theorem o2 (k : Nat) : l2 k = p2 k := (Eq.trans (b := u2 k) (g2 k) (Eq.trans (b := t2) (e2 k) (by kernel_rfl)))
def t1 (f2 : T2) : T1 := fun (x0 : List UInt8) (x1 : Int) (x12 : Bool) => 
  (iteB x12 (some (false, ())) (f2 x0 x1))
theorem e1 (k : Nat) : u1 k = t1 (l2 k) := by kernel_rfl
theorem g1 (k : Nat) : l1 k = u1 k := funext fun _ => funext fun _ => funext fun _ => cut_u _ _ _
theorem d1 {x2 y2 : T2} (h2 : x2 = y2) : t1 x2 = t1 y2 := by subst h2; rfl
def p1 (k : Nat) : T1 := t1 (p2 k)
theorem o1 (k : Nat) : l1 k = p1 k := (Eq.trans (b := u1 k) (g1 k) (Eq.trans (b := t1 (l2 k)) (e1 k) (Eq.trans (b := t1 (p2 k)) (d1 (o2 k)) (by kernel_rfl))))
def t0 (f1 : T1) : T0 := fun (x0 : List UInt8) (x1 : Int) => 
  (iteB (decide (x1 < (0 : Int))) (f1 x0 x1 true) (f1 x0 x1 (decide (((List.length x0 : Nat) : Int) < x1))))
theorem e0 (k : Nat) : u0 k = t0 (l1 k) := by kernel_rfl
theorem d0 {x1 y1 : T1} (h1 : x1 = y1) : t0 x1 = t0 y1 := by subst h1; rfl
def p0 (k : Nat) : T0 := t0 (p1 k)
theorem o0 (k : Nat) : u0 k = p0 k := (Eq.trans (b := t0 (l1 k)) (e0 k) (Eq.trans (b := t0 (p1 k)) (d0 (o1 k)) (by kernel_rfl)))
end ref01_Edge
def s_ref01_Edge (a : (List UInt8) × ((Int) × (Unit))) : Option ((Bool) × (Unit)) := ref01_Edge.p0 (fuel) a.1 a.2.1
noncomputable def F_ref01_Edge : FSpec cx.toNm := { ps := [.val .str, .val (.int .i64)], nres := 1, rt := .bool, rm := .ro, f := s_ref01_Edge }
theorem w_ref01_Edge (a : (List UInt8) × ((Int) × (Unit))) : runOf (S := cx) ref01_Edge.E ref01_Edge.h (fuel) Try.f52 F_ref01_Edge.ps F_ref01_Edge.rt F_ref01_Edge.rm a = F_ref01_Edge.f a := Eq.trans (b := ref01_Edge.u0 (fuel) a.1 a.2.1) (by kernel_rfl) (Eq.trans (b := ref01_Edge.p0 (fuel) a.1 a.2.1) (congrFun (congrFun (ref01_Edge.o0 (fuel)) a.1) a.2.1) (by kernel_rfl))
theorem ok_ref01_Edge : FnOk Try.prog F_ref01_Edge 52 := fn_of (hn := ref01_Edge.h) (E := ref01_Edge.E) cxOk (tysT _) (fs_cons ok_ref01_Follower fs_nil) follows Try.func52 (by kernel_rfl) (fun a r h => ⟨fuel, Eq.trans (w_ref01_Edge a) h⟩)
namespace ref01_Sign
noncomputable def E : Env cx := { tys := tys, fs := fsOf [] }
abbrev R := Option ((Bool) × (Unit))
abbrev C := Exit → ST cx → R
noncomputable def b : Code := bodyC Try.f100
noncomputable def h : Hint := { vs := [0, 2], nil := [], cuts := [], ret := ([2], []), ords := [] }
noncomputable def K0 : C := fin (S := cx) E Try.f100.results.toList .bool .ro [] []
noncomputable def c0 : Code := subC b [1]
noncomputable def K1 (k : Nat) : C := outD h c0 K0
noncomputable def K2 (k : Nat) : C := seqC E h k c0 K0
noncomputable def c1 : Code := subC b [1, 1]
noncomputable def K3 (k : Nat) : C := outD h c1 (K1 k)
noncomputable def K4 (k : Nat) : C := seqC E h k c1 (K1 k)
abbrev T0 := Int → R
noncomputable def u0 (k : Nat) : T0 := fun (x0 : Int) => runOf (S := cx) E h k Try.f100 [.val (.int .i64)] .bool .ro (x0, ())
def t0 : T0 := fun (x0 : Int) => 
  (iteB (decide ((0 : Int) ≤ x0)) (iteB (decide (x0 < (1114112 : Int))) (iteB (decide ((55296 : Int) ≤ x0)) (some ((notB (decide (x0 ≤ (57343 : Int)))), ())) (some (true, ()))) (some (false, ()))) (some (false, ())))
theorem e0 (k : Nat) : u0 k = t0 := by kernel_rfl
def p0 (k : Nat) : T0 := t0
theorem o0 (k : Nat) : u0 k = p0 k := (Eq.trans (b := t0) (e0 k) (by kernel_rfl))
end ref01_Sign
def s_ref01_Sign (a : (Int) × (Unit)) : Option ((Bool) × (Unit)) := ref01_Sign.p0 (fuel) a.1
noncomputable def F_ref01_Sign : FSpec cx.toNm := { ps := [.val (.int .i64)], nres := 1, rt := .bool, rm := .ro, f := s_ref01_Sign }
theorem w_ref01_Sign (a : (Int) × (Unit)) : runOf (S := cx) ref01_Sign.E ref01_Sign.h (fuel) Try.f100 F_ref01_Sign.ps F_ref01_Sign.rt F_ref01_Sign.rm a = F_ref01_Sign.f a := Eq.trans (b := ref01_Sign.u0 (fuel) a.1) (by kernel_rfl) (Eq.trans (b := ref01_Sign.p0 (fuel) a.1) (congrFun (ref01_Sign.o0 (fuel)) a.1) (by kernel_rfl))
theorem ok_ref01_Sign : FnOk Try.prog F_ref01_Sign 100 := fn_of (hn := ref01_Sign.h) (E := ref01_Sign.E) cxOk (tysT _) fs_nil follows Try.func100 (by kernel_rfl) (fun a r h => ⟨fuel, Eq.trans (w_ref01_Sign a) h⟩)
namespace ref01_Bytes
noncomputable def E : Env cx := { tys := tys, fs := fsOf [(100, F_ref01_Sign)] }
abbrev R := Option ((List UInt8) × (Unit))
abbrev C := Exit → ST cx → R
noncomputable def b : Code := bodyC Try.f49
noncomputable def h : Hint := { vs := [0, 2], nil := [], cuts := [], ret := ([2], []), ords := [] }
noncomputable def K0 : C := fin (S := cx) E Try.f49.results.toList .str .ro [] []
noncomputable def c0 : Code := subC b [1]
noncomputable def K1 (k : Nat) : C := outD h c0 K0
noncomputable def K2 (k : Nat) : C := seqC E h k c0 K0
noncomputable def c1 : Code := subC b [1, 1]
noncomputable def K3 (k : Nat) : C := outD h c1 (K1 k)
noncomputable def K4 (k : Nat) : C := seqC E h k c1 (K1 k)
noncomputable def c2 : Code := subC b [1, 0, 1]
noncomputable def K5 (k : Nat) : C := outD h c2 (K4 k)
noncomputable def K6 (k : Nat) : C := seqC E h k c2 (K4 k)
noncomputable def c3 : Code := subC b [1, 0, 1, 0, 1]
noncomputable def K7 (k : Nat) : C := outD h c3 (K5 k)
noncomputable def K8 (k : Nat) : C := seqC E h k c3 (K5 k)
noncomputable def c4 : Code := subC b [1, 1, 1]
noncomputable def K9 (k : Nat) : C := outD h c4 (K3 k)
noncomputable def K10 (k : Nat) : C := seqC E h k c4 (K3 k)
noncomputable def c5 : Code := subC b [1, 1, 0, 1]
noncomputable def K11 (k : Nat) : C := outD h c5 (K10 k)
noncomputable def K12 (k : Nat) : C := seqC E h k c5 (K10 k)
noncomputable def c6 : Code := subC b [1, 1, 0, 1, 0, 1]
noncomputable def K13 (k : Nat) : C := outD h c6 (K11 k)
noncomputable def K14 (k : Nat) : C := seqC E h k c6 (K11 k)
noncomputable def c7 : Code := subC b [1, 1, 1, 1]
noncomputable def K15 (k : Nat) : C := outD h c7 (K9 k)
noncomputable def K16 (k : Nat) : C := seqC E h k c7 (K9 k)
noncomputable def c8 : Code := subC b [1, 1, 1, 0, 1]
noncomputable def K17 (k : Nat) : C := outD h c8 (K16 k)
noncomputable def K18 (k : Nat) : C := seqC E h k c8 (K16 k)
noncomputable def c9 : Code := subC b [1, 1, 1, 0, 1, 0, 1]
noncomputable def K19 (k : Nat) : C := outD h c9 (K17 k)
noncomputable def K20 (k : Nat) : C := seqC E h k c9 (K17 k)
noncomputable def c10 : Code := subC b [1, 1, 1, 1, 1]
noncomputable def K21 (k : Nat) : C := outD h c10 (K15 k)
noncomputable def K22 (k : Nat) : C := seqC E h k c10 (K15 k)
noncomputable def c11 : Code := subC b [1, 1, 1, 1, 0, 1]
noncomputable def K23 (k : Nat) : C := outD h c11 (K22 k)
noncomputable def K24 (k : Nat) : C := seqC E h k c11 (K22 k)
noncomputable def c12 : Code := subC b [1, 1, 1, 1, 0, 1, 0, 1]
noncomputable def K25 (k : Nat) : C := outD h c12 (K23 k)
noncomputable def K26 (k : Nat) : C := seqC E h k c12 (K23 k)
noncomputable def c13 : Code := subC b [1, 1, 1, 1, 1, 1]
noncomputable def K27 (k : Nat) : C := outD h c13 (K21 k)
noncomputable def K28 (k : Nat) : C := seqC E h k c13 (K21 k)
abbrev T0 := Int → R
noncomputable def u0 (k : Nat) : T0 := fun (x0 : Int) => runOf (S := cx) E h k Try.f49 [.val (.int .i64)] .str .ro (x0, ())
def t0 : T0 := fun (x0 : Int) => 
  (bindR (s_ref01_Sign (x0, ())) fun r1 => (iteB (notB r1.1) (some (([] : List UInt8), ())) (iteB (decide (x0 < (128 : Int))) (some ((bytesOf ([(w8 (x0))] : List (Int))), ())) (iteB (decide (x0 < (2048 : Int))) (some ((bytesOf ([(w8 ((w64 ((192 : Int) + (w64 (Int.tdiv x0 (64 : Int))))))), (w8 ((w64 ((128 : Int) + (Int.tmod x0 (64 : Int))))))] : List (Int))), ())) (iteB (decide (x0 < (65536 : Int))) (some ((bytesOf ([(w8 ((w64 ((224 : Int) + (w64 (Int.tdiv x0 (4096 : Int))))))), (w8 ((w64 ((128 : Int) + (Int.tmod (w64 (Int.tdiv x0 (64 : Int))) (64 : Int)))))), (w8 ((w64 ((128 : Int) + (Int.tmod x0 (64 : Int))))))] : List (Int))), ())) (some ((bytesOf ([(w8 ((w64 ((240 : Int) + (w64 (Int.tdiv x0 (262144 : Int))))))), (w8 ((w64 ((128 : Int) + (Int.tmod (w64 (Int.tdiv x0 (4096 : Int))) (64 : Int)))))), (w8 ((w64 ((128 : Int) + (Int.tmod (w64 (Int.tdiv x0 (64 : Int))) (64 : Int)))))), (w8 ((w64 ((128 : Int) + (Int.tmod x0 (64 : Int))))))] : List (Int))), ())))))))
theorem e0 (k : Nat) : u0 k = t0 := by kernel_rfl
def p0 (k : Nat) : T0 := t0
theorem o0 (k : Nat) : u0 k = p0 k := (Eq.trans (b := t0) (e0 k) (by kernel_rfl))
end ref01_Bytes
def s_ref01_Bytes (a : (Int) × (Unit)) : Option ((List UInt8) × (Unit)) := ref01_Bytes.p0 (fuel) a.1
noncomputable def F_ref01_Bytes : FSpec cx.toNm := { ps := [.val (.int .i64)], nres := 1, rt := .str, rm := .ro, f := s_ref01_Bytes }
theorem w_ref01_Bytes (a : (Int) × (Unit)) : runOf (S := cx) ref01_Bytes.E ref01_Bytes.h (fuel) Try.f49 F_ref01_Bytes.ps F_ref01_Bytes.rt F_ref01_Bytes.rm a = F_ref01_Bytes.f a := Eq.trans (b := ref01_Bytes.u0 (fuel) a.1) (by kernel_rfl) (Eq.trans (b := ref01_Bytes.p0 (fuel) a.1) (congrFun (ref01_Bytes.o0 (fuel)) a.1) (by kernel_rfl))
theorem ok_ref01_Bytes : FnOk Try.prog F_ref01_Bytes 49 := fn_of (hn := ref01_Bytes.h) (E := ref01_Bytes.E) cxOk (tysT _) (fs_cons ok_ref01_Sign fs_nil) follows Try.func49 (by kernel_rfl) (fun a r h => ⟨fuel, Eq.trans (w_ref01_Bytes a) h⟩)
end
end Go.Proofs.Ytdifekkamjoepaa.Vm.Rp
