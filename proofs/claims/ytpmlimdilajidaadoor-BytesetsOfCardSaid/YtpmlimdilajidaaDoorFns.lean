/- What the functions of sets of bytes compute, as plain functions; that they do. -/
import Derived.Test.YtpmlimdilajidaaDoorVm2
import Derived.Test.YtpmlimdilajidaaDoorChecked
import Derived.KernelRfl
import Derived.Test.YtpmlimdilajidaaDoorLib
namespace Go.Proofs.YtpmlimdilajidaaDoor.Vm.Bs
open Go Go.Proofs.YtpmlimdilajidaaDoor.Vm Go.Proofs
set_option linter.unusedVariables false
set_option maxRecDepth 100000
noncomputable section
namespace bytesets_put
noncomputable def E : Env cx := { tys := tys, fs := fsOf [] }
abbrev R := Option ((Unit) × ((List (Int)) × (Unit)))
abbrev C := Exit → ST cx → R
noncomputable def b : Code := bodyC Tryd.f16
noncomputable def h : Hint := { vs := [0, 1], nil := [(0, (.own .ro))], cuts := [], ret := ([0], [1000000]), ords := [] }
noncomputable def K0 : C := fin (S := cx) E Tryd.f16.results.toList .unit .ro [1000000] [((.agg (.arr 4 (.int .u64))), .ro)]
abbrev T0 := (List (Int)) → Int → R
noncomputable def u0 (k : Nat) : T0 := fun (x0 : List (Int)) (x1 : Int) => runOf (S := cx) E h k Tryd.f16 [.io (.agg (.arr 4 (.int .u64))) .ro, .val (.int .u8)] .unit .ro (x0, x1, ())
def t0 : T0 := fun (x0 : List (Int)) (x1 : Int) => 
  (withinR (w8 (Int.tdiv x1 (64 : Int))) 4 fun q1 => (mustR (decide (0 ≤ (Int.tmod x1 (64 : Int)))) (withinR (w8 (Int.tdiv x1 (64 : Int))) 4 fun q2 => (some ((), ((List.set x0 q2 (bitI .or .u64 (List.getD x0 q1 (0 : Int)) (shlI .u64 (1 : Int) (Int.tmod x1 (64 : Int))))), ()))))))
theorem e0 (k : Nat) : u0 k = t0 := by kernel_rfl
def p0 (k : Nat) : T0 := t0
theorem o0 (k : Nat) : u0 k = p0 k := (Eq.trans (b := t0) (e0 k) (by kernel_rfl))
end bytesets_put
def s_bytesets_put (a : (List (Int)) × ((Int) × (Unit))) : Option ((Unit) × ((List (Int)) × (Unit))) := bytesets_put.p0 (fuel) a.1 a.2.1
noncomputable def F_bytesets_put : FSpec cx.toNm := { ps := [.io (.agg (.arr 4 (.int .u64))) .ro, .val (.int .u8)], nres := 0, rt := .unit, rm := .ro, f := s_bytesets_put }
theorem w_bytesets_put (a : (List (Int)) × ((Int) × (Unit))) : runOf (S := cx) bytesets_put.E bytesets_put.h (fuel) Tryd.f16 F_bytesets_put.ps F_bytesets_put.rt F_bytesets_put.rm a = F_bytesets_put.f a := Eq.trans (b := bytesets_put.u0 (fuel) a.1 a.2.1) (by kernel_rfl) (Eq.trans (b := bytesets_put.p0 (fuel) a.1 a.2.1) (congrFun (congrFun (bytesets_put.o0 (fuel)) a.1) a.2.1) (by kernel_rfl))
theorem ok_bytesets_put : FnOk Tryd.prog F_bytesets_put 16 := fn_of (hn := bytesets_put.h) (E := bytesets_put.E) cxOk (tysT _) fs_nil follows Tryd.func16 (by kernel_rfl) (fun a r h => ⟨fuel, Eq.trans (w_bytesets_put a) h⟩)
namespace bytesets_Of
noncomputable def E : Env cx := { tys := tys, fs := fsOf [(16, F_bytesets_put)] }
abbrev R := Option ((List (Int)) × (Unit))
abbrev C := Exit → ST cx → R
noncomputable def b : Code := bodyC Tryd.f5
noncomputable def h : Hint := { vs := [0, 2, 3, 5, 6, 7, 8], nil := [], cuts := [(3, ([2, 3, 6, 7, 8], [2, 3]), ([2, 3], [2, 3])), (7, ([2, 3], [2, 3]), ([2, 3], [2, 3]))], ret := ([2], [2, 3]), ords := [] }
noncomputable def K0 : C := fin (S := cx) E Tryd.f5.results.toList (.agg (.arr 4 (.int .u64))) .ro [] []
noncomputable def c0 : Code := subC b [1]
noncomputable def K1 (k : Nat) : C := outD h c0 K0
noncomputable def K2 (k : Nat) : C := seqC E h k c0 K0
noncomputable def c1 : Code := subC b [1, 1]
noncomputable def K3 (k : Nat) : C := outD h c1 (K1 k)
noncomputable def K4 (k : Nat) : C := seqC E h k c1 (K1 k)
noncomputable def c2 : Code := subC b [1, 1, 1]
noncomputable def K5 (k : Nat) : C := outD h c2 (K3 k)
noncomputable def K6 (k : Nat) : C := seqC E h k c2 (K3 k)
noncomputable def c3 : Code := subC b [1, 1, 0, 1]
noncomputable def K7 (k : Nat) : C := outD h c3 (K6 k)
noncomputable def K8 (k : Nat) : C := seqC E h k c3 (K6 k)
noncomputable def K9 (k : Nat) : C := blockK 0 (K7 k)
noncomputable def c4 : Code := subC b [1, 1, 0, 1, 0, 0]
noncomputable def K10 (k n1 : Nat) : C := loopD E h k c4 (K9 k) n1
noncomputable def c5 : Code := subC b [1, 1, 0, 1, 0, 0, 1]
noncomputable def K11 (k n1 : Nat) : C := outD h c5 (K10 k n1)
noncomputable def K12 (k n1 : Nat) : C := seqC E h k c5 (K10 k n1)
noncomputable def c6 : Code := subC b [1, 1, 0, 1, 0, 0, 1, 1]
noncomputable def K13 (k n1 : Nat) : C := outD h c6 (K11 k n1)
noncomputable def K14 (k n1 : Nat) : C := seqC E h k c6 (K11 k n1)
noncomputable def c7 : Code := subC b [1, 1, 0, 1, 0, 0, 1, 1, 1]
noncomputable def K15 (k n1 : Nat) : C := outD h c7 (K13 k n1)
noncomputable def K16 (k n1 : Nat) : C := seqC E h k c7 (K13 k n1)
noncomputable def K17 (k n1 : Nat) : C := blockK 1 (K16 k n1)
noncomputable def c8 : Code := subC b [1, 1, 0, 1, 0, 0, 1, 1, 0, 0, 1]
noncomputable def K18 (k n1 : Nat) : C := outD h c8 (K17 k n1)
noncomputable def K19 (k n1 : Nat) : C := seqC E h k c8 (K17 k n1)
noncomputable def c9 : Code := subC b [1, 1, 1, 1]
noncomputable def K20 (k : Nat) : C := outD h c9 (K5 k)
noncomputable def K21 (k : Nat) : C := seqC E h k c9 (K5 k)
abbrev T2 := (List (Int)) → (List (Int)) → R
abbrev T1 := (List (Int)) → Int → Int → (List (Int)) → (List (Int)) → R
abbrev T0 := (List (Int)) → R
abbrev s2 : (List (Int)) → (List (Int)) → ST cx := fun (m2 m3 : List (Int)) => ({ vars := [(2, .addr (.mem 2) []), (3, .addr (.mem 3) [])], scr := [], mems := [(2, ⟨(.agg (.arr 4 (.int .u64))), .ro, m2⟩), (3, ⟨(.agg (.arr 4 (.int .u64))), .ro, m3⟩)] } : ST cx)
noncomputable def u2 (k : Nat) : T2 := fun (m2 m3 : List (Int)) => uK (run E h k c2) (s2 m2 m3) (K5 k)
noncomputable abbrev l2 (k : Nat) : T2 := fun (m2 m3 : List (Int)) => cutK (run E h k c2) (s2 m2 m3) (K5 k)
abbrev s1 : (List (Int)) → Int → Int → (List (Int)) → (List (Int)) → ST cx := fun (x6 : List (Int)) (x7 x8 : Int) (m2 m3 : List (Int)) => ({ vars := [(2, .addr (.mem 2) []), (3, .addr (.mem 3) []), (6, .v (.slice 5 (.int .u8)) .ro x6), (7, .v (.int .i64) .ro x7), (8, .v (.int .i64) .ro x8)], scr := [], mems := [(2, ⟨(.agg (.arr 4 (.int .u64))), .ro, m2⟩), (3, ⟨(.agg (.arr 4 (.int .u64))), .ro, m3⟩)] } : ST cx)
noncomputable def u1 (k n1 : Nat) : T1 := fun (x6 : List (Int)) (x7 x8 : Int) (m2 m3 : List (Int)) => uK (loopL E h k c4 (K9 k) n1) (s1 x6 x7 x8 m2 m3) ()
noncomputable abbrev l1 (k n1 : Nat) : T1 := fun (x6 : List (Int)) (x7 x8 : Int) (m2 m3 : List (Int)) => cutK (loopL E h k c4 (K9 k) n1) (s1 x6 x7 x8 m2 m3) ()
noncomputable def u0 (k : Nat) : T0 := fun (x0 : List (Int)) => runOf (S := cx) E h k Tryd.f5 [.val (.slice 5 (.int .u8))] (.agg (.arr 4 (.int .u64))) .ro (x0, ())
def t2 : T2 := fun (m2 m3 : List (Int)) => 
  (some (m3, ()))
theorem e2 (k : Nat) : u2 k = t2 := by kernel_rfl
theorem g2 (k : Nat) : l2 k = u2 k := funext fun _ => funext fun _ => cut_u _ _ _
def p2 (k : Nat) : T2 := t2
theorem o2 (k : Nat) : l2 k = p2 k := (Eq.trans (b := u2 k) (g2 k) (Eq.trans (b := t2) (e2 k) (by kernel_rfl)))
def t1 (f1 : T1) (f2 : T2) : T1 := fun (x6 : List (Int)) (x7 x8 : Int) (m2 m3 : List (Int)) => 
  (iteB (decide (x8 < x7)) (withinR x8 (List.length x6) fun q1 => (bindR (s_bytesets_put (m3, ((List.getD x6 q1 (0 : Int)), ()))) fun r2 => (f1 x6 x7 (w64 (x8 + (1 : Int))) m2 r2.2.1))) (f2 m2 m3))
theorem e1 (k n1 : Nat) : u1 k (n1 + 1) = t1 (l1 k n1) (l2 k) := by kernel_rfl
theorem g1 (k n1 : Nat) : l1 k (n1 + 1) = u1 k (n1 + 1) := funext fun _ => funext fun _ => funext fun _ => funext fun _ => funext fun _ => cut_u _ _ _
theorem d1 {x1 y1 : T1} {x2 y2 : T2} (h1 : x1 = y1) (h2 : x2 = y2) : t1 x1 x2 = t1 y1 y2 := by subst h1; subst h2; rfl
def p1 (k : Nat) : Nat → T1
  | 0 => fun _ _ _ _ _ => none
  | n1 + 1 => t1 (p1 k n1) (p2 k)
theorem o1 (k : Nat) : ∀ n1, l1 k n1 = p1 k n1 := by
  intro n1
  induction n1 with
  | zero => kernel_rfl
  | succ n1 ih => exact (Eq.trans (b := u1 k (n1 + 1)) (g1 k n1) (Eq.trans (b := t1 (l1 k n1) (l2 k)) (e1 k n1) (Eq.trans (b := t1 (p1 k n1) (p2 k)) (d1 ih (o2 k)) (by kernel_rfl))))
def t0 (f1 : T1) : T0 := fun (x0 : List (Int)) => 
  (f1 x0 ((List.length x0 : Nat) : Int) (0 : Int) (List.replicate 4 (0 : Int)) (List.replicate 4 (0 : Int)))
theorem e0 (k : Nat) : u0 k = t0 (l1 k k) := by kernel_rfl
theorem d0 {x1 y1 : T1} (h1 : x1 = y1) : t0 x1 = t0 y1 := by subst h1; rfl
def p0 (k : Nat) : T0 := t0 (p1 k k)
theorem o0 (k : Nat) : u0 k = p0 k := (Eq.trans (b := t0 (l1 k k)) (e0 k) (Eq.trans (b := t0 (p1 k k)) (d0 (o1 k k)) (by kernel_rfl)))
end bytesets_Of
def s_bytesets_Of (a : (List (Int)) × (Unit)) : Option ((List (Int)) × (Unit)) := bytesets_Of.p0 (fuel) a.1
noncomputable def F_bytesets_Of : FSpec cx.toNm := { ps := [.val (.slice 5 (.int .u8))], nres := 1, rt := (.agg (.arr 4 (.int .u64))), rm := .ro, f := s_bytesets_Of }
theorem w_bytesets_Of (a : (List (Int)) × (Unit)) : runOf (S := cx) bytesets_Of.E bytesets_Of.h (fuel) Tryd.f5 F_bytesets_Of.ps F_bytesets_Of.rt F_bytesets_Of.rm a = F_bytesets_Of.f a := Eq.trans (b := bytesets_Of.u0 (fuel) a.1) (by kernel_rfl) (Eq.trans (b := bytesets_Of.p0 (fuel) a.1) (congrFun (bytesets_Of.o0 (fuel)) a.1) (by kernel_rfl))
theorem ok_bytesets_Of : FnOk Tryd.prog F_bytesets_Of 5 := fn_of (hn := bytesets_Of.h) (E := bytesets_Of.E) cxOk (tysT _) (fs_cons ok_bytesets_put fs_nil) follows Tryd.func5 (by kernel_rfl) (fun a r h => ⟨fuel, Eq.trans (w_bytesets_Of a) h⟩)
namespace bytesets_Range_1
noncomputable def E : Env cx := { tys := tys, fs := fsOf [] }
abbrev R := Option ((Bool) × (Unit))
abbrev C := Exit → ST cx → R
noncomputable def b : Code := bodyC Tryd.f18
noncomputable def h : Hint := { vs := [0, 1, 2, 4], nil := [], cuts := [], ret := ([4], []), ords := [] }
noncomputable def K0 : C := fin (S := cx) E Tryd.f18.results.toList .bool .ro [] []
noncomputable def c0 : Code := subC b [1]
noncomputable def K1 (k : Nat) : C := outD h c0 K0
noncomputable def K2 (k : Nat) : C := seqC E h k c0 K0
noncomputable def c1 : Code := subC b [1, 1]
noncomputable def K3 (k : Nat) : C := outD h c1 (K1 k)
noncomputable def K4 (k : Nat) : C := seqC E h k c1 (K1 k)
abbrev T0 := Int → Int → Int → R
noncomputable def u0 (k : Nat) : T0 := fun (x0 x1 x2 : Int) => runOf (S := cx) E h k Tryd.f18 [.val (.int .u8), .val (.box (.int .u8)), .val (.box (.int .u8))] .bool .ro (x0, x1, x2, ())
def t0 : T0 := fun (x0 x1 x2 : Int) => 
  (iteB (decide (x1 ≤ x0)) (some ((decide (x0 ≤ x2)), ())) (some (false, ())))
theorem e0 (k : Nat) : u0 k = t0 := by kernel_rfl
def p0 (k : Nat) : T0 := t0
theorem o0 (k : Nat) : u0 k = p0 k := (Eq.trans (b := t0) (e0 k) (by kernel_rfl))
end bytesets_Range_1
def s_bytesets_Range_1 (a : (Int) × ((Int) × ((Int) × (Unit)))) : Option ((Bool) × (Unit)) := bytesets_Range_1.p0 (fuel) a.1 a.2.1 a.2.2.1
noncomputable def F_bytesets_Range_1 : FSpec cx.toNm := { ps := [.val (.int .u8), .val (.box (.int .u8)), .val (.box (.int .u8))], nres := 1, rt := .bool, rm := .ro, f := s_bytesets_Range_1 }
theorem w_bytesets_Range_1 (a : (Int) × ((Int) × ((Int) × (Unit)))) : runOf (S := cx) bytesets_Range_1.E bytesets_Range_1.h (fuel) Tryd.f18 F_bytesets_Range_1.ps F_bytesets_Range_1.rt F_bytesets_Range_1.rm a = F_bytesets_Range_1.f a := Eq.trans (b := bytesets_Range_1.u0 (fuel) a.1 a.2.1 a.2.2.1) (by kernel_rfl) (Eq.trans (b := bytesets_Range_1.p0 (fuel) a.1 a.2.1 a.2.2.1) (congrFun (congrFun (congrFun (bytesets_Range_1.o0 (fuel)) a.1) a.2.1) a.2.2.1) (by kernel_rfl))
theorem ok_bytesets_Range_1 : FnOk Tryd.prog F_bytesets_Range_1 18 := fn_of (hn := bytesets_Range_1.h) (E := bytesets_Range_1.E) cxOk (tysT _) fs_nil follows Tryd.func18 (by kernel_rfl) (fun a r h => ⟨fuel, Eq.trans (w_bytesets_Range_1 a) h⟩)
namespace bytesets_those_l18
noncomputable def E : Env cx := { tys := tys, fs := fsOf [(16, F_bytesets_put), (18, F_bytesets_Range_1)] }
abbrev R := Option ((List (Int)) × (Unit))
abbrev C := Exit → ST cx → R
noncomputable def b : Code := bodyC Tryd.f17
noncomputable def h : Hint := { vs := [0, 2, 3, 4, 5], nil := [], cuts := [(3, ([0, 2, 3, 5], [2, 3]), ([2, 3], [2, 3])), (7, ([0, 2, 3, 5], [2, 3]), ([0, 2, 3, 5], [2, 3])), (8, ([2, 3], [2, 3]), ([2, 3], [2, 3]))], ret := ([2], [2, 3]), ords := [] }
noncomputable def K0 : C := fin (S := cx) E Tryd.f17.results.toList (.agg (.arr 4 (.int .u64))) .ro [] []
noncomputable def c0 : Code := subC b [1]
noncomputable def K1 (k : Nat) : C := outD h c0 K0
noncomputable def K2 (k : Nat) : C := seqC E h k c0 K0
noncomputable def c1 : Code := subC b [1, 1]
noncomputable def K3 (k : Nat) : C := outD h c1 (K1 k)
noncomputable def K4 (k : Nat) : C := seqC E h k c1 (K1 k)
noncomputable def c2 : Code := subC b [1, 1, 1]
noncomputable def K5 (k : Nat) : C := outD h c2 (K3 k)
noncomputable def K6 (k : Nat) : C := seqC E h k c2 (K3 k)
noncomputable def c3 : Code := subC b [1, 1, 0, 1]
noncomputable def K7 (k : Nat) : C := outD h c3 (K6 k)
noncomputable def K8 (k : Nat) : C := seqC E h k c3 (K6 k)
noncomputable def K9 (k : Nat) : C := blockK 0 (K7 k)
noncomputable def c4 : Code := subC b [1, 1, 0, 1, 0, 0]
noncomputable def K10 (k n1 : Nat) : C := loopD E h k c4 (K9 k) n1
noncomputable def c5 : Code := subC b [1, 1, 0, 1, 0, 0, 1]
noncomputable def K11 (k n1 : Nat) : C := outD h c5 (K10 k n1)
noncomputable def K12 (k n1 : Nat) : C := seqC E h k c5 (K10 k n1)
noncomputable def c6 : Code := subC b [1, 1, 0, 1, 0, 0, 1, 1]
noncomputable def K13 (k n1 : Nat) : C := outD h c6 (K11 k n1)
noncomputable def K14 (k n1 : Nat) : C := seqC E h k c6 (K11 k n1)
noncomputable def c7 : Code := subC b [1, 1, 0, 1, 0, 0, 1, 1, 1]
noncomputable def K15 (k n1 : Nat) : C := outD h c7 (K13 k n1)
noncomputable def K16 (k n1 : Nat) : C := seqC E h k c7 (K13 k n1)
noncomputable def K17 (k n1 : Nat) : C := blockK 1 (K16 k n1)
noncomputable def c8 : Code := subC b [1, 1, 0, 1, 0, 0, 1, 1, 0, 0, 1]
noncomputable def K18 (k n1 : Nat) : C := outD h c8 (K17 k n1)
noncomputable def K19 (k n1 : Nat) : C := seqC E h k c8 (K17 k n1)
noncomputable def c9 : Code := subC b [1, 1, 0, 1, 0, 0, 1, 1, 0, 0, 1, 1]
noncomputable def K20 (k n1 : Nat) : C := outD h c9 (K18 k n1)
noncomputable def K21 (k n1 : Nat) : C := seqC E h k c9 (K18 k n1)
noncomputable def c10 : Code := subC b [1, 1, 1, 1]
noncomputable def K22 (k : Nat) : C := outD h c10 (K5 k)
noncomputable def K23 (k : Nat) : C := seqC E h k c10 (K5 k)
abbrev T2 := ((Int) × ((Int) × (Unit))) → Int → (List (Int)) → (List (Int)) → R
abbrev T3 := (List (Int)) → (List (Int)) → R
abbrev T1 := ((Int) × ((Int) × (Unit))) → Int → (List (Int)) → (List (Int)) → R
abbrev T0 := ((Int) × ((Int) × (Unit))) → R
abbrev s2 : ((Int) × ((Int) × (Unit))) → Int → (List (Int)) → (List (Int)) → ST cx := fun (x0 : (Int) × ((Int) × (Unit))) (x5 : Int) (m2 m3 : List (Int)) => ({ vars := [(0, .v (.clo 18 (.pair (.box (.int .u8)) (.pair (.box (.int .u8)) .unit))) .ro x0), (2, .addr (.mem 2) []), (3, .addr (.mem 3) []), (5, .v (.int .i64) .ro x5)], scr := [], mems := [(2, ⟨(.agg (.arr 4 (.int .u64))), .ro, m2⟩), (3, ⟨(.agg (.arr 4 (.int .u64))), .ro, m3⟩)] } : ST cx)
noncomputable def u2 (k n1 : Nat) : T2 := fun (x0 : (Int) × ((Int) × (Unit))) (x5 : Int) (m2 m3 : List (Int)) => uK (run E h k c7) (s2 x0 x5 m2 m3) (K15 k n1)
noncomputable abbrev l2 (k n1 : Nat) : T2 := fun (x0 : (Int) × ((Int) × (Unit))) (x5 : Int) (m2 m3 : List (Int)) => cutK (run E h k c7) (s2 x0 x5 m2 m3) (K15 k n1)
abbrev s3 : (List (Int)) → (List (Int)) → ST cx := fun (m2 m3 : List (Int)) => ({ vars := [(2, .addr (.mem 2) []), (3, .addr (.mem 3) [])], scr := [], mems := [(2, ⟨(.agg (.arr 4 (.int .u64))), .ro, m2⟩), (3, ⟨(.agg (.arr 4 (.int .u64))), .ro, m3⟩)] } : ST cx)
noncomputable def u3 (k : Nat) : T3 := fun (m2 m3 : List (Int)) => uK (run E h k c2) (s3 m2 m3) (K5 k)
noncomputable abbrev l3 (k : Nat) : T3 := fun (m2 m3 : List (Int)) => cutK (run E h k c2) (s3 m2 m3) (K5 k)
abbrev s1 : ((Int) × ((Int) × (Unit))) → Int → (List (Int)) → (List (Int)) → ST cx := fun (x0 : (Int) × ((Int) × (Unit))) (x5 : Int) (m2 m3 : List (Int)) => ({ vars := [(0, .v (.clo 18 (.pair (.box (.int .u8)) (.pair (.box (.int .u8)) .unit))) .ro x0), (2, .addr (.mem 2) []), (3, .addr (.mem 3) []), (5, .v (.int .i64) .ro x5)], scr := [], mems := [(2, ⟨(.agg (.arr 4 (.int .u64))), .ro, m2⟩), (3, ⟨(.agg (.arr 4 (.int .u64))), .ro, m3⟩)] } : ST cx)
noncomputable def u1 (k n1 : Nat) : T1 := fun (x0 : (Int) × ((Int) × (Unit))) (x5 : Int) (m2 m3 : List (Int)) => uK (loopL E h k c4 (K9 k) n1) (s1 x0 x5 m2 m3) ()
noncomputable abbrev l1 (k n1 : Nat) : T1 := fun (x0 : (Int) × ((Int) × (Unit))) (x5 : Int) (m2 m3 : List (Int)) => cutK (loopL E h k c4 (K9 k) n1) (s1 x0 x5 m2 m3) ()
noncomputable def u0 (k : Nat) : T0 := fun (x0 : (Int) × ((Int) × (Unit))) => runOf (S := cx) E h k Tryd.f17 [.val (.clo 18 (.pair (.box (.int .u8)) (.pair (.box (.int .u8)) .unit)))] (.agg (.arr 4 (.int .u64))) .ro (x0, ())
def t2 (f1 : T1) : T2 := fun (x0 : (Int) × ((Int) × (Unit))) (x5 : Int) (m2 m3 : List (Int)) => 
  (f1 x0 (w64 (x5 + (1 : Int))) m2 m3)
theorem e2 (k n1 : Nat) : u2 k n1 = t2 (l1 k n1) := by kernel_rfl
theorem g2 (k n1 : Nat) : l2 k n1 = u2 k n1 := funext fun _ => funext fun _ => funext fun _ => funext fun _ => cut_u _ _ _
theorem d2 {x1 y1 : T1} (h1 : x1 = y1) : t2 x1 = t2 y1 := by subst h1; rfl
def p2 (k : Nat) (a1 : T1) : T2 := t2 a1
theorem o2 (k n1 : Nat) (a1 : T1) (h1 : l1 k n1 = a1) : l2 k n1 = p2 k a1 := (Eq.trans (b := u2 k n1) (g2 k n1) (Eq.trans (b := t2 (l1 k n1)) (e2 k n1) (Eq.trans (b := t2 a1) (d2 h1) (by kernel_rfl))))
def t3 : T3 := fun (m2 m3 : List (Int)) => 
  (some (m3, ()))
theorem e3 (k : Nat) : u3 k = t3 := by kernel_rfl
theorem g3 (k : Nat) : l3 k = u3 k := funext fun _ => funext fun _ => cut_u _ _ _
def p3 (k : Nat) : T3 := t3
theorem o3 (k : Nat) : l3 k = p3 k := (Eq.trans (b := u3 k) (g3 k) (Eq.trans (b := t3) (e3 k) (by kernel_rfl)))
def t1 (f2 : T2) (f3 : T3) : T1 := fun (x0 : (Int) × ((Int) × (Unit))) (x5 : Int) (m2 m3 : List (Int)) => 
  (iteB (decide (x5 < (256 : Int))) (bindR (s_bytesets_Range_1 ((w8 (x5)), (x0.1, (x0.2.1, ())))) fun r1 => (iteB r1.1 (bindR (s_bytesets_put (m3, ((w8 (x5)), ()))) fun r2 => (f2 x0 x5 m2 r2.2.1)) (f2 x0 x5 m2 m3))) (f3 m2 m3))
theorem e1 (k n1 : Nat) : u1 k (n1 + 1) = t1 (l2 k n1) (l3 k) := by kernel_rfl
theorem g1 (k n1 : Nat) : l1 k (n1 + 1) = u1 k (n1 + 1) := funext fun _ => funext fun _ => funext fun _ => funext fun _ => cut_u _ _ _
theorem d1 {x2 y2 : T2} {x3 y3 : T3} (h2 : x2 = y2) (h3 : x3 = y3) : t1 x2 x3 = t1 y2 y3 := by subst h2; subst h3; rfl
def p1 (k : Nat) : Nat → T1
  | 0 => fun _ _ _ _ => none
  | n1 + 1 => t1 (p2 k (p1 k n1)) (p3 k)
theorem o1 (k : Nat) : ∀ n1, l1 k n1 = p1 k n1 := by
  intro n1
  induction n1 with
  | zero => kernel_rfl
  | succ n1 ih => exact (Eq.trans (b := u1 k (n1 + 1)) (g1 k n1) (Eq.trans (b := t1 (l2 k n1) (l3 k)) (e1 k n1) (Eq.trans (b := t1 (p2 k (p1 k n1)) (p3 k)) (d1 (o2 k n1 (p1 k n1) ih) (o3 k)) (by kernel_rfl))))
def t0 (f1 : T1) : T0 := fun (x0 : (Int) × ((Int) × (Unit))) => 
  (f1 x0 (0 : Int) (List.replicate 4 (0 : Int)) (List.replicate 4 (0 : Int)))
theorem e0 (k : Nat) : u0 k = t0 (l1 k k) := by kernel_rfl
theorem d0 {x1 y1 : T1} (h1 : x1 = y1) : t0 x1 = t0 y1 := by subst h1; rfl
def p0 (k : Nat) : T0 := t0 (p1 k k)
theorem o0 (k : Nat) : u0 k = p0 k := (Eq.trans (b := t0 (l1 k k)) (e0 k) (Eq.trans (b := t0 (p1 k k)) (d0 (o1 k k)) (by kernel_rfl)))
end bytesets_those_l18
def s_bytesets_those_l18 (a : ((Int) × ((Int) × (Unit))) × (Unit)) : Option ((List (Int)) × (Unit)) := bytesets_those_l18.p0 (fuel) a.1
noncomputable def F_bytesets_those_l18 : FSpec cx.toNm := { ps := [.val (.clo 18 (.pair (.box (.int .u8)) (.pair (.box (.int .u8)) .unit)))], nres := 1, rt := (.agg (.arr 4 (.int .u64))), rm := .ro, f := s_bytesets_those_l18 }
theorem w_bytesets_those_l18 (a : ((Int) × ((Int) × (Unit))) × (Unit)) : runOf (S := cx) bytesets_those_l18.E bytesets_those_l18.h (fuel) Tryd.f17 F_bytesets_those_l18.ps F_bytesets_those_l18.rt F_bytesets_those_l18.rm a = F_bytesets_those_l18.f a := Eq.trans (b := bytesets_those_l18.u0 (fuel) a.1) (by kernel_rfl) (Eq.trans (b := bytesets_those_l18.p0 (fuel) a.1) (congrFun (bytesets_those_l18.o0 (fuel)) a.1) (by kernel_rfl))
theorem ok_bytesets_those_l18 : FnOk Tryd.prog F_bytesets_those_l18 17 := fn_of (hn := bytesets_those_l18.h) (E := bytesets_those_l18.E) cxOk (tysT _) (fs_cons ok_bytesets_put (fs_cons ok_bytesets_Range_1 fs_nil)) follows Tryd.func17 (by kernel_rfl) (fun a r h => ⟨fuel, Eq.trans (w_bytesets_those_l18 a) h⟩)
namespace bytesets_Range
noncomputable def E : Env cx := { tys := tys, fs := fsOf [(17, F_bytesets_those_l18)] }
abbrev R := Option ((List (Int)) × (Unit))
abbrev C := Exit → ST cx → R
noncomputable def b : Code := bodyC Tryd.f6
noncomputable def h : Hint := { vs := [0, 1, 2, 3, 4], nil := [], cuts := [], ret := ([4], [2, 3, 4]), ords := [] }
noncomputable def K0 : C := fin (S := cx) E Tryd.f6.results.toList (.agg (.arr 4 (.int .u64))) .ro [] []
noncomputable def c0 : Code := subC b [1]
noncomputable def K1 (k : Nat) : C := outD h c0 K0
noncomputable def K2 (k : Nat) : C := seqC E h k c0 K0
noncomputable def c1 : Code := subC b [1, 1]
noncomputable def K3 (k : Nat) : C := outD h c1 (K1 k)
noncomputable def K4 (k : Nat) : C := seqC E h k c1 (K1 k)
abbrev T0 := Int → Int → R
noncomputable def u0 (k : Nat) : T0 := fun (x0 x1 : Int) => runOf (S := cx) E h k Tryd.f6 [.val (.int .u8), .val (.int .u8)] (.agg (.arr 4 (.int .u64))) .ro (x0, x1, ())
def t0 : T0 := fun (x0 x1 : Int) => 
  (bindR (s_bytesets_those_l18 ((x0, (x1, ())), ())) fun r1 => (some (r1.1, ())))
theorem e0 (k : Nat) : u0 k = t0 := by kernel_rfl
def p0 (k : Nat) : T0 := t0
theorem o0 (k : Nat) : u0 k = p0 k := (Eq.trans (b := t0) (e0 k) (by kernel_rfl))
end bytesets_Range
def s_bytesets_Range (a : (Int) × ((Int) × (Unit))) : Option ((List (Int)) × (Unit)) := bytesets_Range.p0 (fuel) a.1 a.2.1
noncomputable def F_bytesets_Range : FSpec cx.toNm := { ps := [.val (.int .u8), .val (.int .u8)], nres := 1, rt := (.agg (.arr 4 (.int .u64))), rm := .ro, f := s_bytesets_Range }
theorem w_bytesets_Range (a : (Int) × ((Int) × (Unit))) : runOf (S := cx) bytesets_Range.E bytesets_Range.h (fuel) Tryd.f6 F_bytesets_Range.ps F_bytesets_Range.rt F_bytesets_Range.rm a = F_bytesets_Range.f a := Eq.trans (b := bytesets_Range.u0 (fuel) a.1 a.2.1) (by kernel_rfl) (Eq.trans (b := bytesets_Range.p0 (fuel) a.1 a.2.1) (congrFun (congrFun (bytesets_Range.o0 (fuel)) a.1) a.2.1) (by kernel_rfl))
theorem ok_bytesets_Range : FnOk Tryd.prog F_bytesets_Range 6 := fn_of (hn := bytesets_Range.h) (E := bytesets_Range.E) cxOk (tysT _) (fs_cons ok_bytesets_those_l18 fs_nil) follows Tryd.func6 (by kernel_rfl) (fun a r h => ⟨fuel, Eq.trans (w_bytesets_Range a) h⟩)
namespace math_bits_OnesCount64
noncomputable def E : Env cx := { tys := tys, fs := fsOf [] }
abbrev R := Option ((Int) × (Unit))
abbrev C := Exit → ST cx → R
noncomputable def b : Code := bodyC Tryd.f21
noncomputable def h : Hint := { vs := [0, 2], nil := [], cuts := [], ret := ([2], []), ords := [] }
noncomputable def K0 : C := fin (S := cx) E Tryd.f21.results.toList (.int .i64) .ro [] []
noncomputable def c0 : Code := subC b [1]
noncomputable def K1 (k : Nat) : C := outD h c0 K0
noncomputable def K2 (k : Nat) : C := seqC E h k c0 K0
noncomputable def c1 : Code := subC b [1, 1]
noncomputable def K3 (k : Nat) : C := outD h c1 (K1 k)
noncomputable def K4 (k : Nat) : C := seqC E h k c1 (K1 k)
noncomputable def c2 : Code := subC b [1, 1, 1]
noncomputable def K5 (k : Nat) : C := outD h c2 (K3 k)
noncomputable def K6 (k : Nat) : C := seqC E h k c2 (K3 k)
noncomputable def c3 : Code := subC b [1, 1, 1, 1]
noncomputable def K7 (k : Nat) : C := outD h c3 (K5 k)
noncomputable def K8 (k : Nat) : C := seqC E h k c3 (K5 k)
noncomputable def c4 : Code := subC b [1, 1, 1, 1, 1]
noncomputable def K9 (k : Nat) : C := outD h c4 (K7 k)
noncomputable def K10 (k : Nat) : C := seqC E h k c4 (K7 k)
noncomputable def c5 : Code := subC b [1, 1, 1, 1, 1, 1]
noncomputable def K11 (k : Nat) : C := outD h c5 (K9 k)
noncomputable def K12 (k : Nat) : C := seqC E h k c5 (K9 k)
noncomputable def c6 : Code := subC b [1, 1, 1, 1, 1, 1, 1]
noncomputable def K13 (k : Nat) : C := outD h c6 (K11 k)
noncomputable def K14 (k : Nat) : C := seqC E h k c6 (K11 k)
noncomputable def c7 : Code := subC b [1, 1, 1, 1, 1, 1, 1, 1]
noncomputable def K15 (k : Nat) : C := outD h c7 (K13 k)
noncomputable def K16 (k : Nat) : C := seqC E h k c7 (K13 k)
abbrev T0 := Int → R
noncomputable def u0 (k : Nat) : T0 := fun (x0 : Int) => runOf (S := cx) E h k Tryd.f21 [.val (.int .u64)] (.int .i64) .ro (x0, ())
def t0 : T0 := fun (x0 : Int) => 
  (some ((bitI .and .i64 (w64 ((IntKind.wrap .u64 ((IntKind.wrap .u64 ((IntKind.wrap .u64 ((bitI .and .u64 (IntKind.wrap .u64 ((shrI .u64 (IntKind.wrap .u64 ((bitI .and .u64 (shrI .u64 (IntKind.wrap .u64 ((bitI .and .u64 (shrI .u64 x0 (1 : Int)) (6148914691236517205 : Int)) + (bitI .and .u64 x0 (6148914691236517205 : Int)))) (2 : Int)) (3689348814741910323 : Int)) + (bitI .and .u64 (IntKind.wrap .u64 ((bitI .and .u64 (shrI .u64 x0 (1 : Int)) (6148914691236517205 : Int)) + (bitI .and .u64 x0 (6148914691236517205 : Int)))) (3689348814741910323 : Int)))) (4 : Int)) + (IntKind.wrap .u64 ((bitI .and .u64 (shrI .u64 (IntKind.wrap .u64 ((bitI .and .u64 (shrI .u64 x0 (1 : Int)) (6148914691236517205 : Int)) + (bitI .and .u64 x0 (6148914691236517205 : Int)))) (2 : Int)) (3689348814741910323 : Int)) + (bitI .and .u64 (IntKind.wrap .u64 ((bitI .and .u64 (shrI .u64 x0 (1 : Int)) (6148914691236517205 : Int)) + (bitI .and .u64 x0 (6148914691236517205 : Int)))) (3689348814741910323 : Int)))))) (1085102592571150095 : Int)) + (shrI .u64 (bitI .and .u64 (IntKind.wrap .u64 ((shrI .u64 (IntKind.wrap .u64 ((bitI .and .u64 (shrI .u64 (IntKind.wrap .u64 ((bitI .and .u64 (shrI .u64 x0 (1 : Int)) (6148914691236517205 : Int)) + (bitI .and .u64 x0 (6148914691236517205 : Int)))) (2 : Int)) (3689348814741910323 : Int)) + (bitI .and .u64 (IntKind.wrap .u64 ((bitI .and .u64 (shrI .u64 x0 (1 : Int)) (6148914691236517205 : Int)) + (bitI .and .u64 x0 (6148914691236517205 : Int)))) (3689348814741910323 : Int)))) (4 : Int)) + (IntKind.wrap .u64 ((bitI .and .u64 (shrI .u64 (IntKind.wrap .u64 ((bitI .and .u64 (shrI .u64 x0 (1 : Int)) (6148914691236517205 : Int)) + (bitI .and .u64 x0 (6148914691236517205 : Int)))) (2 : Int)) (3689348814741910323 : Int)) + (bitI .and .u64 (IntKind.wrap .u64 ((bitI .and .u64 (shrI .u64 x0 (1 : Int)) (6148914691236517205 : Int)) + (bitI .and .u64 x0 (6148914691236517205 : Int)))) (3689348814741910323 : Int)))))) (1085102592571150095 : Int)) (8 : Int)))) + (shrI .u64 (IntKind.wrap .u64 ((bitI .and .u64 (IntKind.wrap .u64 ((shrI .u64 (IntKind.wrap .u64 ((bitI .and .u64 (shrI .u64 (IntKind.wrap .u64 ((bitI .and .u64 (shrI .u64 x0 (1 : Int)) (6148914691236517205 : Int)) + (bitI .and .u64 x0 (6148914691236517205 : Int)))) (2 : Int)) (3689348814741910323 : Int)) + (bitI .and .u64 (IntKind.wrap .u64 ((bitI .and .u64 (shrI .u64 x0 (1 : Int)) (6148914691236517205 : Int)) + (bitI .and .u64 x0 (6148914691236517205 : Int)))) (3689348814741910323 : Int)))) (4 : Int)) + (IntKind.wrap .u64 ((bitI .and .u64 (shrI .u64 (IntKind.wrap .u64 ((bitI .and .u64 (shrI .u64 x0 (1 : Int)) (6148914691236517205 : Int)) + (bitI .and .u64 x0 (6148914691236517205 : Int)))) (2 : Int)) (3689348814741910323 : Int)) + (bitI .and .u64 (IntKind.wrap .u64 ((bitI .and .u64 (shrI .u64 x0 (1 : Int)) (6148914691236517205 : Int)) + (bitI .and .u64 x0 (6148914691236517205 : Int)))) (3689348814741910323 : Int)))))) (1085102592571150095 : Int)) + (shrI .u64 (bitI .and .u64 (IntKind.wrap .u64 ((shrI .u64 (IntKind.wrap .u64 ((bitI .and .u64 (shrI .u64 (IntKind.wrap .u64 ((bitI .and .u64 (shrI .u64 x0 (1 : Int)) (6148914691236517205 : Int)) + (bitI .and .u64 x0 (6148914691236517205 : Int)))) (2 : Int)) (3689348814741910323 : Int)) + (bitI .and .u64 (IntKind.wrap .u64 ((bitI .and .u64 (shrI .u64 x0 (1 : Int)) (6148914691236517205 : Int)) + (bitI .and .u64 x0 (6148914691236517205 : Int)))) (3689348814741910323 : Int)))) (4 : Int)) + (IntKind.wrap .u64 ((bitI .and .u64 (shrI .u64 (IntKind.wrap .u64 ((bitI .and .u64 (shrI .u64 x0 (1 : Int)) (6148914691236517205 : Int)) + (bitI .and .u64 x0 (6148914691236517205 : Int)))) (2 : Int)) (3689348814741910323 : Int)) + (bitI .and .u64 (IntKind.wrap .u64 ((bitI .and .u64 (shrI .u64 x0 (1 : Int)) (6148914691236517205 : Int)) + (bitI .and .u64 x0 (6148914691236517205 : Int)))) (3689348814741910323 : Int)))))) (1085102592571150095 : Int)) (8 : Int)))) (16 : Int)))) + (shrI .u64 (IntKind.wrap .u64 ((IntKind.wrap .u64 ((bitI .and .u64 (IntKind.wrap .u64 ((shrI .u64 (IntKind.wrap .u64 ((bitI .and .u64 (shrI .u64 (IntKind.wrap .u64 ((bitI .and .u64 (shrI .u64 x0 (1 : Int)) (6148914691236517205 : Int)) + (bitI .and .u64 x0 (6148914691236517205 : Int)))) (2 : Int)) (3689348814741910323 : Int)) + (bitI .and .u64 (IntKind.wrap .u64 ((bitI .and .u64 (shrI .u64 x0 (1 : Int)) (6148914691236517205 : Int)) + (bitI .and .u64 x0 (6148914691236517205 : Int)))) (3689348814741910323 : Int)))) (4 : Int)) + (IntKind.wrap .u64 ((bitI .and .u64 (shrI .u64 (IntKind.wrap .u64 ((bitI .and .u64 (shrI .u64 x0 (1 : Int)) (6148914691236517205 : Int)) + (bitI .and .u64 x0 (6148914691236517205 : Int)))) (2 : Int)) (3689348814741910323 : Int)) + (bitI .and .u64 (IntKind.wrap .u64 ((bitI .and .u64 (shrI .u64 x0 (1 : Int)) (6148914691236517205 : Int)) + (bitI .and .u64 x0 (6148914691236517205 : Int)))) (3689348814741910323 : Int)))))) (1085102592571150095 : Int)) + (shrI .u64 (bitI .and .u64 (IntKind.wrap .u64 ((shrI .u64 (IntKind.wrap .u64 ((bitI .and .u64 (shrI .u64 (IntKind.wrap .u64 ((bitI .and .u64 (shrI .u64 x0 (1 : Int)) (6148914691236517205 : Int)) + (bitI .and .u64 x0 (6148914691236517205 : Int)))) (2 : Int)) (3689348814741910323 : Int)) + (bitI .and .u64 (IntKind.wrap .u64 ((bitI .and .u64 (shrI .u64 x0 (1 : Int)) (6148914691236517205 : Int)) + (bitI .and .u64 x0 (6148914691236517205 : Int)))) (3689348814741910323 : Int)))) (4 : Int)) + (IntKind.wrap .u64 ((bitI .and .u64 (shrI .u64 (IntKind.wrap .u64 ((bitI .and .u64 (shrI .u64 x0 (1 : Int)) (6148914691236517205 : Int)) + (bitI .and .u64 x0 (6148914691236517205 : Int)))) (2 : Int)) (3689348814741910323 : Int)) + (bitI .and .u64 (IntKind.wrap .u64 ((bitI .and .u64 (shrI .u64 x0 (1 : Int)) (6148914691236517205 : Int)) + (bitI .and .u64 x0 (6148914691236517205 : Int)))) (3689348814741910323 : Int)))))) (1085102592571150095 : Int)) (8 : Int)))) + (shrI .u64 (IntKind.wrap .u64 ((bitI .and .u64 (IntKind.wrap .u64 ((shrI .u64 (IntKind.wrap .u64 ((bitI .and .u64 (shrI .u64 (IntKind.wrap .u64 ((bitI .and .u64 (shrI .u64 x0 (1 : Int)) (6148914691236517205 : Int)) + (bitI .and .u64 x0 (6148914691236517205 : Int)))) (2 : Int)) (3689348814741910323 : Int)) + (bitI .and .u64 (IntKind.wrap .u64 ((bitI .and .u64 (shrI .u64 x0 (1 : Int)) (6148914691236517205 : Int)) + (bitI .and .u64 x0 (6148914691236517205 : Int)))) (3689348814741910323 : Int)))) (4 : Int)) + (IntKind.wrap .u64 ((bitI .and .u64 (shrI .u64 (IntKind.wrap .u64 ((bitI .and .u64 (shrI .u64 x0 (1 : Int)) (6148914691236517205 : Int)) + (bitI .and .u64 x0 (6148914691236517205 : Int)))) (2 : Int)) (3689348814741910323 : Int)) + (bitI .and .u64 (IntKind.wrap .u64 ((bitI .and .u64 (shrI .u64 x0 (1 : Int)) (6148914691236517205 : Int)) + (bitI .and .u64 x0 (6148914691236517205 : Int)))) (3689348814741910323 : Int)))))) (1085102592571150095 : Int)) + (shrI .u64 (bitI .and .u64 (IntKind.wrap .u64 ((shrI .u64 (IntKind.wrap .u64 ((bitI .and .u64 (shrI .u64 (IntKind.wrap .u64 ((bitI .and .u64 (shrI .u64 x0 (1 : Int)) (6148914691236517205 : Int)) + (bitI .and .u64 x0 (6148914691236517205 : Int)))) (2 : Int)) (3689348814741910323 : Int)) + (bitI .and .u64 (IntKind.wrap .u64 ((bitI .and .u64 (shrI .u64 x0 (1 : Int)) (6148914691236517205 : Int)) + (bitI .and .u64 x0 (6148914691236517205 : Int)))) (3689348814741910323 : Int)))) (4 : Int)) + (IntKind.wrap .u64 ((bitI .and .u64 (shrI .u64 (IntKind.wrap .u64 ((bitI .and .u64 (shrI .u64 x0 (1 : Int)) (6148914691236517205 : Int)) + (bitI .and .u64 x0 (6148914691236517205 : Int)))) (2 : Int)) (3689348814741910323 : Int)) + (bitI .and .u64 (IntKind.wrap .u64 ((bitI .and .u64 (shrI .u64 x0 (1 : Int)) (6148914691236517205 : Int)) + (bitI .and .u64 x0 (6148914691236517205 : Int)))) (3689348814741910323 : Int)))))) (1085102592571150095 : Int)) (8 : Int)))) (16 : Int)))) (32 : Int)))))) (127 : Int)), ()))
theorem e0 (k : Nat) : u0 k = t0 := by kernel_rfl
def p0 (k : Nat) : T0 := t0
theorem o0 (k : Nat) : u0 k = p0 k := (Eq.trans (b := t0) (e0 k) (by kernel_rfl))
end math_bits_OnesCount64
def s_math_bits_OnesCount64 (a : (Int) × (Unit)) : Option ((Int) × (Unit)) := math_bits_OnesCount64.p0 (fuel) a.1
noncomputable def F_math_bits_OnesCount64 : FSpec cx.toNm := { ps := [.val (.int .u64)], nres := 1, rt := (.int .i64), rm := .ro, f := s_math_bits_OnesCount64 }
theorem w_math_bits_OnesCount64 (a : (Int) × (Unit)) : runOf (S := cx) math_bits_OnesCount64.E math_bits_OnesCount64.h (fuel) Tryd.f21 F_math_bits_OnesCount64.ps F_math_bits_OnesCount64.rt F_math_bits_OnesCount64.rm a = F_math_bits_OnesCount64.f a := Eq.trans (b := math_bits_OnesCount64.u0 (fuel) a.1) (by kernel_rfl) (Eq.trans (b := math_bits_OnesCount64.p0 (fuel) a.1) (congrFun (math_bits_OnesCount64.o0 (fuel)) a.1) (by kernel_rfl))
theorem ok_math_bits_OnesCount64 : FnOk Tryd.prog F_math_bits_OnesCount64 21 := fn_of (hn := math_bits_OnesCount64.h) (E := math_bits_OnesCount64.E) cxOk (tysT _) fs_nil follows Tryd.func21 (by kernel_rfl) (fun a r h => ⟨fuel, Eq.trans (w_math_bits_OnesCount64 a) h⟩)
namespace bytesets_Len
noncomputable def E : Env cx := { tys := tys, fs := fsOf [(21, F_math_bits_OnesCount64)] }
abbrev R := Option ((Int) × (Unit))
abbrev C := Exit → ST cx → R
noncomputable def b : Code := bodyC Tryd.f11
noncomputable def h : Hint := { vs := [0, 1, 2, 3, 5, 6, 7], nil := [], cuts := [(3, ([3, 6, 7], []), ([3], [])), (7, ([3], []), ([3], []))], ret := ([2], [1]), ords := [] }
noncomputable def K0 : C := fin (S := cx) E Tryd.f11.results.toList (.int .i64) .ro [] []
noncomputable def c0 : Code := subC b [1]
noncomputable def K1 (k : Nat) : C := outD h c0 K0
noncomputable def K2 (k : Nat) : C := seqC E h k c0 K0
noncomputable def c1 : Code := subC b [1, 1]
noncomputable def K3 (k : Nat) : C := outD h c1 (K1 k)
noncomputable def K4 (k : Nat) : C := seqC E h k c1 (K1 k)
noncomputable def c2 : Code := subC b [1, 1, 1]
noncomputable def K5 (k : Nat) : C := outD h c2 (K3 k)
noncomputable def K6 (k : Nat) : C := seqC E h k c2 (K3 k)
noncomputable def c3 : Code := subC b [1, 1, 0, 1]
noncomputable def K7 (k : Nat) : C := outD h c3 (K6 k)
noncomputable def K8 (k : Nat) : C := seqC E h k c3 (K6 k)
noncomputable def K9 (k : Nat) : C := blockK 0 (K7 k)
noncomputable def c4 : Code := subC b [1, 1, 0, 1, 0, 0]
noncomputable def K10 (k n1 : Nat) : C := loopD E h k c4 (K9 k) n1
noncomputable def c5 : Code := subC b [1, 1, 0, 1, 0, 0, 1]
noncomputable def K11 (k n1 : Nat) : C := outD h c5 (K10 k n1)
noncomputable def K12 (k n1 : Nat) : C := seqC E h k c5 (K10 k n1)
noncomputable def c6 : Code := subC b [1, 1, 0, 1, 0, 0, 1, 1]
noncomputable def K13 (k n1 : Nat) : C := outD h c6 (K11 k n1)
noncomputable def K14 (k n1 : Nat) : C := seqC E h k c6 (K11 k n1)
noncomputable def c7 : Code := subC b [1, 1, 0, 1, 0, 0, 1, 1, 1]
noncomputable def K15 (k n1 : Nat) : C := outD h c7 (K13 k n1)
noncomputable def K16 (k n1 : Nat) : C := seqC E h k c7 (K13 k n1)
noncomputable def K17 (k n1 : Nat) : C := blockK 1 (K16 k n1)
noncomputable def c8 : Code := subC b [1, 1, 0, 1, 0, 0, 1, 1, 0, 0, 1]
noncomputable def K18 (k n1 : Nat) : C := outD h c8 (K17 k n1)
noncomputable def K19 (k n1 : Nat) : C := seqC E h k c8 (K17 k n1)
noncomputable def c9 : Code := subC b [1, 1, 1, 1]
noncomputable def K20 (k : Nat) : C := outD h c9 (K5 k)
noncomputable def K21 (k : Nat) : C := seqC E h k c9 (K5 k)
abbrev T2 := Int → R
abbrev T1 := Int → (List (Int)) → Int → R
abbrev T0 := (List (Int)) → R
abbrev s2 : Int → ST cx := fun (x3 : Int) => ({ vars := [(3, .v (.int .i64) .ro x3)], scr := [], mems := [] } : ST cx)
noncomputable def u2 (k : Nat) : T2 := fun (x3 : Int) => uK (run E h k c2) (s2 x3) (K5 k)
noncomputable abbrev l2 (k : Nat) : T2 := fun (x3 : Int) => cutK (run E h k c2) (s2 x3) (K5 k)
abbrev s1 : Int → (List (Int)) → Int → ST cx := fun (x3 : Int) (x6 : List (Int)) (x7 : Int) => ({ vars := [(3, .v (.int .i64) .ro x3), (6, .v (.agg (.arr 4 (.int .u64))) .ro x6), (7, .v (.int .i64) .ro x7)], scr := [], mems := [] } : ST cx)
noncomputable def u1 (k n1 : Nat) : T1 := fun (x3 : Int) (x6 : List (Int)) (x7 : Int) => uK (loopL E h k c4 (K9 k) n1) (s1 x3 x6 x7) ()
noncomputable abbrev l1 (k n1 : Nat) : T1 := fun (x3 : Int) (x6 : List (Int)) (x7 : Int) => cutK (loopL E h k c4 (K9 k) n1) (s1 x3 x6 x7) ()
noncomputable def u0 (k : Nat) : T0 := fun (x0 : List (Int)) => runOf (S := cx) E h k Tryd.f11 [.val (.agg (.arr 4 (.int .u64)))] (.int .i64) .ro (x0, ())
def t2 : T2 := fun (x3 : Int) => 
  (some (x3, ()))
theorem e2 (k : Nat) : u2 k = t2 := by kernel_rfl
theorem g2 (k : Nat) : l2 k = u2 k := funext fun _ => cut_u _ _ _
def p2 (k : Nat) : T2 := t2
theorem o2 (k : Nat) : l2 k = p2 k := (Eq.trans (b := u2 k) (g2 k) (Eq.trans (b := t2) (e2 k) (by kernel_rfl)))
def t1 (f1 : T1) (f2 : T2) : T1 := fun (x3 : Int) (x6 : List (Int)) (x7 : Int) => 
  (iteB (decide (x7 < (4 : Int))) (withinR x7 4 fun q1 => (bindR (s_math_bits_OnesCount64 ((List.getD x6 q1 (0 : Int)), ())) fun r2 => (f1 (w64 (x3 + r2.1)) x6 (w64 (x7 + (1 : Int)))))) (f2 x3))
theorem e1 (k n1 : Nat) : u1 k (n1 + 1) = t1 (l1 k n1) (l2 k) := by kernel_rfl
theorem g1 (k n1 : Nat) : l1 k (n1 + 1) = u1 k (n1 + 1) := funext fun _ => funext fun _ => funext fun _ => cut_u _ _ _
theorem d1 {x1 y1 : T1} {x2 y2 : T2} (h1 : x1 = y1) (h2 : x2 = y2) : t1 x1 x2 = t1 y1 y2 := by subst h1; subst h2; rfl
def p1 (k : Nat) : Nat → T1
  | 0 => fun _ _ _ => none
  | n1 + 1 => t1 (p1 k n1) (p2 k)
theorem o1 (k : Nat) : ∀ n1, l1 k n1 = p1 k n1 := by
  intro n1
  induction n1 with
  | zero => kernel_rfl
  | succ n1 ih => exact (Eq.trans (b := u1 k (n1 + 1)) (g1 k n1) (Eq.trans (b := t1 (l1 k n1) (l2 k)) (e1 k n1) (Eq.trans (b := t1 (p1 k n1) (p2 k)) (d1 ih (o2 k)) (by kernel_rfl))))
def t0 (f1 : T1) : T0 := fun (x0 : List (Int)) => 
  (f1 (0 : Int) x0 (0 : Int))
theorem e0 (k : Nat) : u0 k = t0 (l1 k k) := by kernel_rfl
theorem d0 {x1 y1 : T1} (h1 : x1 = y1) : t0 x1 = t0 y1 := by subst h1; rfl
def p0 (k : Nat) : T0 := t0 (p1 k k)
theorem o0 (k : Nat) : u0 k = p0 k := (Eq.trans (b := t0 (l1 k k)) (e0 k) (Eq.trans (b := t0 (p1 k k)) (d0 (o1 k k)) (by kernel_rfl)))
end bytesets_Len
def s_bytesets_Len (a : (List (Int)) × (Unit)) : Option ((Int) × (Unit)) := bytesets_Len.p0 (fuel) a.1
noncomputable def F_bytesets_Len : FSpec cx.toNm := { ps := [.val (.agg (.arr 4 (.int .u64)))], nres := 1, rt := (.int .i64), rm := .ro, f := s_bytesets_Len }
theorem w_bytesets_Len (a : (List (Int)) × (Unit)) : runOf (S := cx) bytesets_Len.E bytesets_Len.h (fuel) Tryd.f11 F_bytesets_Len.ps F_bytesets_Len.rt F_bytesets_Len.rm a = F_bytesets_Len.f a := Eq.trans (b := bytesets_Len.u0 (fuel) a.1) (by kernel_rfl) (Eq.trans (b := bytesets_Len.p0 (fuel) a.1) (congrFun (bytesets_Len.o0 (fuel)) a.1) (by kernel_rfl))
theorem ok_bytesets_Len : FnOk Tryd.prog F_bytesets_Len 11 := fn_of (hn := bytesets_Len.h) (E := bytesets_Len.E) cxOk (tysT _) (fs_cons ok_math_bits_OnesCount64 fs_nil) follows Tryd.func11 (by kernel_rfl) (fun a r h => ⟨fuel, Eq.trans (w_bytesets_Len a) h⟩)
namespace bytesets_Has
noncomputable def E : Env cx := { tys := tys, fs := fsOf [] }
abbrev R := Option ((Bool) × (Unit))
abbrev C := Exit → ST cx → R
noncomputable def b : Code := bodyC Tryd.f12
noncomputable def h : Hint := { vs := [0, 1, 2, 4], nil := [], cuts := [], ret := ([4], [2]), ords := [] }
noncomputable def K0 : C := fin (S := cx) E Tryd.f12.results.toList .bool .ro [] []
noncomputable def c0 : Code := subC b [1]
noncomputable def K1 (k : Nat) : C := outD h c0 K0
noncomputable def K2 (k : Nat) : C := seqC E h k c0 K0
noncomputable def c1 : Code := subC b [1, 1]
noncomputable def K3 (k : Nat) : C := outD h c1 (K1 k)
noncomputable def K4 (k : Nat) : C := seqC E h k c1 (K1 k)
abbrev T0 := (List (Int)) → Int → R
noncomputable def u0 (k : Nat) : T0 := fun (x0 : List (Int)) (x1 : Int) => runOf (S := cx) E h k Tryd.f12 [.val (.agg (.arr 4 (.int .u64))), .val (.int .u8)] .bool .ro (x0, x1, ())
def t0 : T0 := fun (x0 : List (Int)) (x1 : Int) => 
  (withinR (w8 (Int.tdiv x1 (64 : Int))) 4 fun q1 => (mustR (decide (0 ≤ (Int.tmod x1 (64 : Int)))) (some ((decide ((bitI .and .u64 (shrI .u64 (List.getD x0 q1 (0 : Int)) (Int.tmod x1 (64 : Int))) (1 : Int)) = (1 : Int))), ()))))
theorem e0 (k : Nat) : u0 k = t0 := by kernel_rfl
def p0 (k : Nat) : T0 := t0
theorem o0 (k : Nat) : u0 k = p0 k := (Eq.trans (b := t0) (e0 k) (by kernel_rfl))
end bytesets_Has
def s_bytesets_Has (a : (List (Int)) × ((Int) × (Unit))) : Option ((Bool) × (Unit)) := bytesets_Has.p0 (fuel) a.1 a.2.1
noncomputable def F_bytesets_Has : FSpec cx.toNm := { ps := [.val (.agg (.arr 4 (.int .u64))), .val (.int .u8)], nres := 1, rt := .bool, rm := .ro, f := s_bytesets_Has }
theorem w_bytesets_Has (a : (List (Int)) × ((Int) × (Unit))) : runOf (S := cx) bytesets_Has.E bytesets_Has.h (fuel) Tryd.f12 F_bytesets_Has.ps F_bytesets_Has.rt F_bytesets_Has.rm a = F_bytesets_Has.f a := Eq.trans (b := bytesets_Has.u0 (fuel) a.1 a.2.1) (by kernel_rfl) (Eq.trans (b := bytesets_Has.p0 (fuel) a.1 a.2.1) (congrFun (congrFun (bytesets_Has.o0 (fuel)) a.1) a.2.1) (by kernel_rfl))
theorem ok_bytesets_Has : FnOk Tryd.prog F_bytesets_Has 12 := fn_of (hn := bytesets_Has.h) (E := bytesets_Has.E) cxOk (tysT _) fs_nil follows Tryd.func12 (by kernel_rfl) (fun a r h => ⟨fuel, Eq.trans (w_bytesets_Has a) h⟩)
namespace bytesets_Not
noncomputable def E : Env cx := { tys := tys, fs := fsOf [] }
abbrev R := Option ((List (Int)) × (Unit))
abbrev C := Exit → ST cx → R
noncomputable def b : Code := bodyC Tryd.f15
noncomputable def h : Hint := { vs := [0, 1, 2, 3, 4], nil := [(0, (.own .ro))], cuts := [(2, ([1, 2, 4], [1, 2]), ([1, 2], [1, 2])), (6, ([1, 2], [1, 2]), ([1, 2], [1, 2]))], ret := ([2], [1, 2]), ords := [] }
noncomputable def K0 : C := fin (S := cx) E Tryd.f15.results.toList (.agg (.arr 4 (.int .u64))) .ro [] []
noncomputable def c0 : Code := subC b [1]
noncomputable def K1 (k : Nat) : C := outD h c0 K0
noncomputable def K2 (k : Nat) : C := seqC E h k c0 K0
noncomputable def c1 : Code := subC b [1, 1]
noncomputable def K3 (k : Nat) : C := outD h c1 (K1 k)
noncomputable def K4 (k : Nat) : C := seqC E h k c1 (K1 k)
noncomputable def c2 : Code := subC b [1, 0, 1]
noncomputable def K5 (k : Nat) : C := outD h c2 (K4 k)
noncomputable def K6 (k : Nat) : C := seqC E h k c2 (K4 k)
noncomputable def K7 (k : Nat) : C := blockK 0 (K5 k)
noncomputable def c3 : Code := subC b [1, 0, 1, 0, 0]
noncomputable def K8 (k n1 : Nat) : C := loopD E h k c3 (K7 k) n1
noncomputable def c4 : Code := subC b [1, 0, 1, 0, 0, 1]
noncomputable def K9 (k n1 : Nat) : C := outD h c4 (K8 k n1)
noncomputable def K10 (k n1 : Nat) : C := seqC E h k c4 (K8 k n1)
noncomputable def c5 : Code := subC b [1, 0, 1, 0, 0, 1, 1]
noncomputable def K11 (k n1 : Nat) : C := outD h c5 (K9 k n1)
noncomputable def K12 (k n1 : Nat) : C := seqC E h k c5 (K9 k n1)
noncomputable def c6 : Code := subC b [1, 0, 1, 0, 0, 1, 1, 1]
noncomputable def K13 (k n1 : Nat) : C := outD h c6 (K11 k n1)
noncomputable def K14 (k n1 : Nat) : C := seqC E h k c6 (K11 k n1)
noncomputable def K15 (k n1 : Nat) : C := blockK 1 (K14 k n1)
noncomputable def c7 : Code := subC b [1, 0, 1, 0, 0, 1, 1, 0, 0, 1]
noncomputable def K16 (k n1 : Nat) : C := outD h c7 (K15 k n1)
noncomputable def K17 (k n1 : Nat) : C := seqC E h k c7 (K15 k n1)
noncomputable def c8 : Code := subC b [1, 1, 1]
noncomputable def K18 (k : Nat) : C := outD h c8 (K3 k)
noncomputable def K19 (k : Nat) : C := seqC E h k c8 (K3 k)
abbrev T2 := (List (Int)) → (List (Int)) → R
abbrev T1 := Int → (List (Int)) → (List (Int)) → R
abbrev T0 := (List (Int)) → R
abbrev s2 : (List (Int)) → (List (Int)) → ST cx := fun (m1 m2 : List (Int)) => ({ vars := [(1, .addr (.mem 1) []), (2, .addr (.mem 2) [])], scr := [], mems := [(1, ⟨(.agg (.arr 4 (.int .u64))), .ro, m1⟩), (2, ⟨(.agg (.arr 4 (.int .u64))), .ro, m2⟩)] } : ST cx)
noncomputable def u2 (k : Nat) : T2 := fun (m1 m2 : List (Int)) => uK (run E h k c1) (s2 m1 m2) (K3 k)
noncomputable abbrev l2 (k : Nat) : T2 := fun (m1 m2 : List (Int)) => cutK (run E h k c1) (s2 m1 m2) (K3 k)
abbrev s1 : Int → (List (Int)) → (List (Int)) → ST cx := fun (x4 : Int) (m1 m2 : List (Int)) => ({ vars := [(1, .addr (.mem 1) []), (2, .addr (.mem 2) []), (4, .v (.int .i64) .ro x4)], scr := [], mems := [(1, ⟨(.agg (.arr 4 (.int .u64))), .ro, m1⟩), (2, ⟨(.agg (.arr 4 (.int .u64))), .ro, m2⟩)] } : ST cx)
noncomputable def u1 (k n1 : Nat) : T1 := fun (x4 : Int) (m1 m2 : List (Int)) => uK (loopL E h k c3 (K7 k) n1) (s1 x4 m1 m2) ()
noncomputable abbrev l1 (k n1 : Nat) : T1 := fun (x4 : Int) (m1 m2 : List (Int)) => cutK (loopL E h k c3 (K7 k) n1) (s1 x4 m1 m2) ()
noncomputable def u0 (k : Nat) : T0 := fun (x0 : List (Int)) => runOf (S := cx) E h k Tryd.f15 [.val (.agg (.arr 4 (.int .u64)))] (.agg (.arr 4 (.int .u64))) .ro (x0, ())
def t2 : T2 := fun (m1 m2 : List (Int)) => 
  (some (m1, ()))
theorem e2 (k : Nat) : u2 k = t2 := by kernel_rfl
theorem g2 (k : Nat) : l2 k = u2 k := funext fun _ => funext fun _ => cut_u _ _ _
def p2 (k : Nat) : T2 := t2
theorem o2 (k : Nat) : l2 k = p2 k := (Eq.trans (b := u2 k) (g2 k) (Eq.trans (b := t2) (e2 k) (by kernel_rfl)))
def t1 (f1 : T1) (f2 : T2) : T1 := fun (x4 : Int) (m1 m2 : List (Int)) => 
  (iteB (decide (x4 < (4 : Int))) (withinR x4 4 fun q1 => (withinR x4 4 fun q2 => (f1 (w64 (x4 + (1 : Int))) (List.set m1 q2 (notI .u64 (List.getD m1 q1 (0 : Int)))) m2))) (f2 m1 m2))
theorem e1 (k n1 : Nat) : u1 k (n1 + 1) = t1 (l1 k n1) (l2 k) := by kernel_rfl
theorem g1 (k n1 : Nat) : l1 k (n1 + 1) = u1 k (n1 + 1) := funext fun _ => funext fun _ => funext fun _ => cut_u _ _ _
theorem d1 {x1 y1 : T1} {x2 y2 : T2} (h1 : x1 = y1) (h2 : x2 = y2) : t1 x1 x2 = t1 y1 y2 := by subst h1; subst h2; rfl
def p1 (k : Nat) : Nat → T1
  | 0 => fun _ _ _ => none
  | n1 + 1 => t1 (p1 k n1) (p2 k)
theorem o1 (k : Nat) : ∀ n1, l1 k n1 = p1 k n1 := by
  intro n1
  induction n1 with
  | zero => kernel_rfl
  | succ n1 ih => exact (Eq.trans (b := u1 k (n1 + 1)) (g1 k n1) (Eq.trans (b := t1 (l1 k n1) (l2 k)) (e1 k n1) (Eq.trans (b := t1 (p1 k n1) (p2 k)) (d1 ih (o2 k)) (by kernel_rfl))))
def t0 (f1 : T1) : T0 := fun (x0 : List (Int)) => 
  (f1 (0 : Int) x0 (List.replicate 4 (0 : Int)))
theorem e0 (k : Nat) : u0 k = t0 (l1 k k) := by kernel_rfl
theorem d0 {x1 y1 : T1} (h1 : x1 = y1) : t0 x1 = t0 y1 := by subst h1; rfl
def p0 (k : Nat) : T0 := t0 (p1 k k)
theorem o0 (k : Nat) : u0 k = p0 k := (Eq.trans (b := t0 (l1 k k)) (e0 k) (Eq.trans (b := t0 (p1 k k)) (d0 (o1 k k)) (by kernel_rfl)))
end bytesets_Not
def s_bytesets_Not (a : (List (Int)) × (Unit)) : Option ((List (Int)) × (Unit)) := bytesets_Not.p0 (fuel) a.1
noncomputable def F_bytesets_Not : FSpec cx.toNm := { ps := [.val (.agg (.arr 4 (.int .u64)))], nres := 1, rt := (.agg (.arr 4 (.int .u64))), rm := .ro, f := s_bytesets_Not }
theorem w_bytesets_Not (a : (List (Int)) × (Unit)) : runOf (S := cx) bytesets_Not.E bytesets_Not.h (fuel) Tryd.f15 F_bytesets_Not.ps F_bytesets_Not.rt F_bytesets_Not.rm a = F_bytesets_Not.f a := Eq.trans (b := bytesets_Not.u0 (fuel) a.1) (by kernel_rfl) (Eq.trans (b := bytesets_Not.p0 (fuel) a.1) (congrFun (bytesets_Not.o0 (fuel)) a.1) (by kernel_rfl))
theorem ok_bytesets_Not : FnOk Tryd.prog F_bytesets_Not 15 := fn_of (hn := bytesets_Not.h) (E := bytesets_Not.E) cxOk (tysT _) fs_nil follows Tryd.func15 (by kernel_rfl) (fun a r h => ⟨fuel, Eq.trans (w_bytesets_Not a) h⟩)
namespace bytesets_All
noncomputable def E : Env cx := { tys := tys, fs := fsOf [(15, F_bytesets_Not)] }
abbrev R := Option ((List (Int)) × (Unit))
abbrev C := Exit → ST cx → R
noncomputable def b : Code := bodyC Tryd.f13
noncomputable def h : Hint := { vs := [0], nil := [], cuts := [], ret := ([0], [0]), ords := [] }
noncomputable def K0 : C := fin (S := cx) E Tryd.f13.results.toList (.agg (.arr 4 (.int .u64))) .ro [] []
noncomputable def c0 : Code := subC b [1]
noncomputable def K1 (k : Nat) : C := outD h c0 K0
noncomputable def K2 (k : Nat) : C := seqC E h k c0 K0
noncomputable def c1 : Code := subC b [1, 1]
noncomputable def K3 (k : Nat) : C := outD h c1 (K1 k)
noncomputable def K4 (k : Nat) : C := seqC E h k c1 (K1 k)
abbrev T0 := R
noncomputable def u0 (k : Nat) : T0 := runOf (S := cx) E h k Tryd.f13 [] (.agg (.arr 4 (.int .u64))) .ro (())
def t0 : T0 := 
  (bindR (s_bytesets_Not ((List.replicate 4 (0 : Int)), ())) fun r1 => (some (r1.1, ())))
theorem e0 (k : Nat) : u0 k = t0 := by kernel_rfl
def p0 (k : Nat) : T0 := t0
theorem o0 (k : Nat) : u0 k = p0 k := (Eq.trans (b := t0) (e0 k) (by kernel_rfl))
end bytesets_All
def s_bytesets_All (a : Unit) : Option ((List (Int)) × (Unit)) := bytesets_All.p0 (fuel)
noncomputable def F_bytesets_All : FSpec cx.toNm := { ps := [], nres := 1, rt := (.agg (.arr 4 (.int .u64))), rm := .ro, f := s_bytesets_All }
theorem w_bytesets_All (a : Unit) : runOf (S := cx) bytesets_All.E bytesets_All.h (fuel) Tryd.f13 F_bytesets_All.ps F_bytesets_All.rt F_bytesets_All.rm a = F_bytesets_All.f a := Eq.trans (b := bytesets_All.u0 (fuel)) (by kernel_rfl) (Eq.trans (b := bytesets_All.p0 (fuel)) (bytesets_All.o0 (fuel)) (by kernel_rfl))
theorem ok_bytesets_All : FnOk Tryd.prog F_bytesets_All 13 := fn_of (hn := bytesets_All.h) (E := bytesets_All.E) cxOk (tysT _) (fs_cons ok_bytesets_Not fs_nil) follows Tryd.func13 (by kernel_rfl) (fun a r h => ⟨fuel, Eq.trans (w_bytesets_All a) h⟩)
namespace bytesets_Or
noncomputable def E : Env cx := { tys := tys, fs := fsOf [] }
abbrev R := Option ((List (Int)) × (Unit))
abbrev C := Exit → ST cx → R
noncomputable def b : Code := bodyC Tryd.f25
noncomputable def h : Hint := { vs := [0, 2, 3, 5, 6, 7, 8, 9, 10, 14, 15], nil := [(3, .ro)], cuts := [(3, ([2, 3, 8, 9, 10], [2, 3]), ([2, 3], [2, 3])), (6, ([2, 3, 8, 9, 10, 14, 15], [2, 3]), ([2, 3, 8, 9, 10], [2, 3])), (10, ([2, 3, 8, 9, 10], [2, 3]), ([2, 3, 8, 9, 10], [2, 3])), (11, ([2, 3], [2, 3]), ([2, 3], [2, 3]))], ret := ([2], [2, 3, 5]), ords := [] }
noncomputable def K0 : C := fin (S := cx) E Tryd.f25.results.toList (.agg (.arr 4 (.int .u64))) .ro [] []
noncomputable def c0 : Code := subC b [1]
noncomputable def K1 (k : Nat) : C := outD h c0 K0
noncomputable def K2 (k : Nat) : C := seqC E h k c0 K0
noncomputable def c1 : Code := subC b [1, 1]
noncomputable def K3 (k : Nat) : C := outD h c1 (K1 k)
noncomputable def K4 (k : Nat) : C := seqC E h k c1 (K1 k)
noncomputable def c2 : Code := subC b [1, 1, 1]
noncomputable def K5 (k : Nat) : C := outD h c2 (K3 k)
noncomputable def K6 (k : Nat) : C := seqC E h k c2 (K3 k)
noncomputable def c3 : Code := subC b [1, 1, 0, 1]
noncomputable def K7 (k : Nat) : C := outD h c3 (K6 k)
noncomputable def K8 (k : Nat) : C := seqC E h k c3 (K6 k)
noncomputable def K9 (k : Nat) : C := blockK 0 (K7 k)
noncomputable def c4 : Code := subC b [1, 1, 0, 1, 0, 0]
noncomputable def K10 (k n1 : Nat) : C := loopD E h k c4 (K9 k) n1
noncomputable def c5 : Code := subC b [1, 1, 0, 1, 0, 0, 1]
noncomputable def K11 (k n1 : Nat) : C := outD h c5 (K10 k n1)
noncomputable def K12 (k n1 : Nat) : C := seqC E h k c5 (K10 k n1)
noncomputable def c6 : Code := subC b [1, 1, 0, 1, 0, 0, 1, 1]
noncomputable def K13 (k n1 : Nat) : C := outD h c6 (K11 k n1)
noncomputable def K14 (k n1 : Nat) : C := seqC E h k c6 (K11 k n1)
noncomputable def c7 : Code := subC b [1, 1, 0, 1, 0, 0, 1, 1, 1]
noncomputable def K15 (k n1 : Nat) : C := outD h c7 (K13 k n1)
noncomputable def K16 (k n1 : Nat) : C := seqC E h k c7 (K13 k n1)
noncomputable def K17 (k n1 : Nat) : C := blockK 1 (K16 k n1)
noncomputable def c8 : Code := subC b [1, 1, 0, 1, 0, 0, 1, 1, 0, 0, 1]
noncomputable def K18 (k n1 : Nat) : C := outD h c8 (K17 k n1)
noncomputable def K19 (k n1 : Nat) : C := seqC E h k c8 (K17 k n1)
noncomputable def c9 : Code := subC b [1, 1, 0, 1, 0, 0, 1, 1, 0, 0, 1, 1]
noncomputable def K20 (k n1 : Nat) : C := outD h c9 (K18 k n1)
noncomputable def K21 (k n1 : Nat) : C := seqC E h k c9 (K18 k n1)
noncomputable def K22 (k n1 : Nat) : C := blockK 2 (K20 k n1)
noncomputable def c10 : Code := subC b [1, 1, 0, 1, 0, 0, 1, 1, 0, 0, 1, 1, 0, 0]
noncomputable def K23 (k n1 n2 : Nat) : C := loopD E h k c10 (K22 k n1) n2
noncomputable def c11 : Code := subC b [1, 1, 0, 1, 0, 0, 1, 1, 0, 0, 1, 1, 0, 0, 1]
noncomputable def K24 (k n1 n2 : Nat) : C := outD h c11 (K23 k n1 n2)
noncomputable def K25 (k n1 n2 : Nat) : C := seqC E h k c11 (K23 k n1 n2)
noncomputable def c12 : Code := subC b [1, 1, 0, 1, 0, 0, 1, 1, 0, 0, 1, 1, 0, 0, 1, 1]
noncomputable def K26 (k n1 n2 : Nat) : C := outD h c12 (K24 k n1 n2)
noncomputable def K27 (k n1 n2 : Nat) : C := seqC E h k c12 (K24 k n1 n2)
noncomputable def c13 : Code := subC b [1, 1, 0, 1, 0, 0, 1, 1, 0, 0, 1, 1, 0, 0, 1, 1, 1]
noncomputable def K28 (k n1 n2 : Nat) : C := outD h c13 (K26 k n1 n2)
noncomputable def K29 (k n1 n2 : Nat) : C := seqC E h k c13 (K26 k n1 n2)
noncomputable def K30 (k n1 n2 : Nat) : C := blockK 3 (K29 k n1 n2)
noncomputable def c14 : Code := subC b [1, 1, 0, 1, 0, 0, 1, 1, 0, 0, 1, 1, 0, 0, 1, 1, 0, 0, 1]
noncomputable def K31 (k n1 n2 : Nat) : C := outD h c14 (K30 k n1 n2)
noncomputable def K32 (k n1 n2 : Nat) : C := seqC E h k c14 (K30 k n1 n2)
noncomputable def c15 : Code := subC b [1, 1, 1, 1]
noncomputable def K33 (k : Nat) : C := outD h c15 (K5 k)
noncomputable def K34 (k : Nat) : C := seqC E h k c15 (K5 k)
abbrev T4 := (List (List (Int))) → Int → Int → (List (Int)) → (List (Int)) → R
abbrev T2 := (List (List (Int))) → Int → Int → (List (Int)) → Int → (List (Int)) → (List (Int)) → R
abbrev T3 := (List (Int)) → (List (Int)) → R
abbrev T1 := (List (List (Int))) → Int → Int → (List (Int)) → (List (Int)) → R
abbrev T0 := (List (List (Int))) → R
abbrev s4 : (List (List (Int))) → Int → Int → (List (Int)) → (List (Int)) → ST cx := fun (x8 : List (List (Int))) (x9 x10 : Int) (m2 m3 : List (Int)) => ({ vars := [(2, .addr (.mem 2) []), (3, .addr (.mem 3) []), (8, .v (.slice 26 (.agg (.arr 4 (.int .u64)))) .ro x8), (9, .v (.int .i64) .ro x9), (10, .v (.int .i64) .ro x10)], scr := [], mems := [(2, ⟨(.agg (.arr 4 (.int .u64))), .ro, m2⟩), (3, ⟨(.agg (.arr 4 (.int .u64))), .ro, m3⟩)] } : ST cx)
noncomputable def u4 (k n1 : Nat) : T4 := fun (x8 : List (List (Int))) (x9 x10 : Int) (m2 m3 : List (Int)) => uK (run E h k c7) (s4 x8 x9 x10 m2 m3) (K15 k n1)
noncomputable abbrev l4 (k n1 : Nat) : T4 := fun (x8 : List (List (Int))) (x9 x10 : Int) (m2 m3 : List (Int)) => cutK (run E h k c7) (s4 x8 x9 x10 m2 m3) (K15 k n1)
abbrev s2 : (List (List (Int))) → Int → Int → (List (Int)) → Int → (List (Int)) → (List (Int)) → ST cx := fun (x8 : List (List (Int))) (x9 x10 : Int) (x14 : List (Int)) (x15 : Int) (m2 m3 : List (Int)) => ({ vars := [(2, .addr (.mem 2) []), (3, .addr (.mem 3) []), (8, .v (.slice 26 (.agg (.arr 4 (.int .u64)))) .ro x8), (9, .v (.int .i64) .ro x9), (10, .v (.int .i64) .ro x10), (14, .v (.agg (.arr 4 (.int .u64))) .ro x14), (15, .v (.int .i64) .ro x15)], scr := [], mems := [(2, ⟨(.agg (.arr 4 (.int .u64))), .ro, m2⟩), (3, ⟨(.agg (.arr 4 (.int .u64))), .ro, m3⟩)] } : ST cx)
noncomputable def u2 (k n1 n2 : Nat) : T2 := fun (x8 : List (List (Int))) (x9 x10 : Int) (x14 : List (Int)) (x15 : Int) (m2 m3 : List (Int)) => uK (loopL E h k c10 (K22 k n1) n2) (s2 x8 x9 x10 x14 x15 m2 m3) ()
noncomputable abbrev l2 (k n1 n2 : Nat) : T2 := fun (x8 : List (List (Int))) (x9 x10 : Int) (x14 : List (Int)) (x15 : Int) (m2 m3 : List (Int)) => cutK (loopL E h k c10 (K22 k n1) n2) (s2 x8 x9 x10 x14 x15 m2 m3) ()
abbrev s3 : (List (Int)) → (List (Int)) → ST cx := fun (m2 m3 : List (Int)) => ({ vars := [(2, .addr (.mem 2) []), (3, .addr (.mem 3) [])], scr := [], mems := [(2, ⟨(.agg (.arr 4 (.int .u64))), .ro, m2⟩), (3, ⟨(.agg (.arr 4 (.int .u64))), .ro, m3⟩)] } : ST cx)
noncomputable def u3 (k : Nat) : T3 := fun (m2 m3 : List (Int)) => uK (run E h k c2) (s3 m2 m3) (K5 k)
noncomputable abbrev l3 (k : Nat) : T3 := fun (m2 m3 : List (Int)) => cutK (run E h k c2) (s3 m2 m3) (K5 k)
abbrev s1 : (List (List (Int))) → Int → Int → (List (Int)) → (List (Int)) → ST cx := fun (x8 : List (List (Int))) (x9 x10 : Int) (m2 m3 : List (Int)) => ({ vars := [(2, .addr (.mem 2) []), (3, .addr (.mem 3) []), (8, .v (.slice 26 (.agg (.arr 4 (.int .u64)))) .ro x8), (9, .v (.int .i64) .ro x9), (10, .v (.int .i64) .ro x10)], scr := [], mems := [(2, ⟨(.agg (.arr 4 (.int .u64))), .ro, m2⟩), (3, ⟨(.agg (.arr 4 (.int .u64))), .ro, m3⟩)] } : ST cx)
noncomputable def u1 (k n1 : Nat) : T1 := fun (x8 : List (List (Int))) (x9 x10 : Int) (m2 m3 : List (Int)) => uK (loopL E h k c4 (K9 k) n1) (s1 x8 x9 x10 m2 m3) ()
noncomputable abbrev l1 (k n1 : Nat) : T1 := fun (x8 : List (List (Int))) (x9 x10 : Int) (m2 m3 : List (Int)) => cutK (loopL E h k c4 (K9 k) n1) (s1 x8 x9 x10 m2 m3) ()
noncomputable def u0 (k : Nat) : T0 := fun (x0 : List (List (Int))) => runOf (S := cx) E h k Tryd.f25 [.val (.slice 26 (.agg (.arr 4 (.int .u64))))] (.agg (.arr 4 (.int .u64))) .ro (x0, ())
def t4 (f1 : T1) : T4 := fun (x8 : List (List (Int))) (x9 x10 : Int) (m2 m3 : List (Int)) => 
  (f1 x8 x9 (w64 (x10 + (1 : Int))) m2 m3)
theorem e4 (k n1 : Nat) : u4 k n1 = t4 (l1 k n1) := by kernel_rfl
theorem g4 (k n1 : Nat) : l4 k n1 = u4 k n1 := funext fun _ => funext fun _ => funext fun _ => funext fun _ => funext fun _ => cut_u _ _ _
theorem d4 {x1 y1 : T1} (h1 : x1 = y1) : t4 x1 = t4 y1 := by subst h1; rfl
def p4 (k : Nat) (a1 : T1) : T4 := t4 a1
theorem o4 (k n1 : Nat) (a1 : T1) (h1 : l1 k n1 = a1) : l4 k n1 = p4 k a1 := (Eq.trans (b := u4 k n1) (g4 k n1) (Eq.trans (b := t4 (l1 k n1)) (e4 k n1) (Eq.trans (b := t4 a1) (d4 h1) (by kernel_rfl))))
def t2 (f2 : T2) (f4 : T4) : T2 := fun (x8 : List (List (Int))) (x9 x10 : Int) (x14 : List (Int)) (x15 : Int) (m2 m3 : List (Int)) => 
  (iteB (decide (x15 < (4 : Int))) (withinR x15 4 fun q2 => (withinR x15 4 fun q3 => (withinR x15 4 fun q4 => (f2 x8 x9 x10 x14 (w64 (x15 + (1 : Int))) m2 (List.set m3 q4 (bitI .or .u64 (List.getD m3 q3 (0 : Int)) (List.getD x14 q2 (0 : Int)))))))) (f4 x8 x9 x10 m2 m3))
theorem e2 (k n1 n2 : Nat) : u2 k n1 (n2 + 1) = t2 (l2 k n1 n2) (l4 k n1) := by kernel_rfl
theorem g2 (k n1 n2 : Nat) : l2 k n1 (n2 + 1) = u2 k n1 (n2 + 1) := funext fun _ => funext fun _ => funext fun _ => funext fun _ => funext fun _ => funext fun _ => funext fun _ => cut_u _ _ _
theorem d2 {x2 y2 : T2} {x4 y4 : T4} (h2 : x2 = y2) (h4 : x4 = y4) : t2 x2 x4 = t2 y2 y4 := by subst h2; subst h4; rfl
def p2 (k : Nat) (a1 : T1) : Nat → T2
  | 0 => fun _ _ _ _ _ _ _ => none
  | n2 + 1 => t2 (p2 k a1 n2) (p4 k a1)
theorem o2 (k n1 : Nat) (a1 : T1) (h1 : l1 k n1 = a1) : ∀ n2, l2 k n1 n2 = p2 k a1 n2 := by
  intro n2
  induction n2 with
  | zero => kernel_rfl
  | succ n2 ih => exact (Eq.trans (b := u2 k n1 (n2 + 1)) (g2 k n1 n2) (Eq.trans (b := t2 (l2 k n1 n2) (l4 k n1)) (e2 k n1 n2) (Eq.trans (b := t2 (p2 k a1 n2) (p4 k a1)) (d2 ih (o4 k n1 a1 h1)) (by kernel_rfl))))
def t3 : T3 := fun (m2 m3 : List (Int)) => 
  (some (m3, ()))
theorem e3 (k : Nat) : u3 k = t3 := by kernel_rfl
theorem g3 (k : Nat) : l3 k = u3 k := funext fun _ => funext fun _ => cut_u _ _ _
def p3 (k : Nat) : T3 := t3
theorem o3 (k : Nat) : l3 k = p3 k := (Eq.trans (b := u3 k) (g3 k) (Eq.trans (b := t3) (e3 k) (by kernel_rfl)))
def t1 (f2 : T2) (f3 : T3) : T1 := fun (x8 : List (List (Int))) (x9 x10 : Int) (m2 m3 : List (Int)) => 
  (iteB (decide (x10 < x9)) (withinR x10 (List.length x8) fun q1 => (f2 x8 x9 x10 (List.getD x8 q1 (List.replicate 4 (0 : Int))) (0 : Int) m2 m3)) (f3 m2 m3))
theorem e1 (k n1 : Nat) : u1 k (n1 + 1) = t1 (l2 k n1 k) (l3 k) := by kernel_rfl
theorem g1 (k n1 : Nat) : l1 k (n1 + 1) = u1 k (n1 + 1) := funext fun _ => funext fun _ => funext fun _ => funext fun _ => funext fun _ => cut_u _ _ _
theorem d1 {x2 y2 : T2} {x3 y3 : T3} (h2 : x2 = y2) (h3 : x3 = y3) : t1 x2 x3 = t1 y2 y3 := by subst h2; subst h3; rfl
def p1 (k : Nat) : Nat → T1
  | 0 => fun _ _ _ _ _ => none
  | n1 + 1 => t1 (p2 k (p1 k n1) k) (p3 k)
theorem o1 (k : Nat) : ∀ n1, l1 k n1 = p1 k n1 := by
  intro n1
  induction n1 with
  | zero => kernel_rfl
  | succ n1 ih => exact (Eq.trans (b := u1 k (n1 + 1)) (g1 k n1) (Eq.trans (b := t1 (l2 k n1 k) (l3 k)) (e1 k n1) (Eq.trans (b := t1 (p2 k (p1 k n1) k) (p3 k)) (d1 (o2 k n1 (p1 k n1) ih k) (o3 k)) (by kernel_rfl))))
def t0 (f1 : T1) : T0 := fun (x0 : List (List (Int))) => 
  (f1 x0 ((List.length x0 : Nat) : Int) (0 : Int) (List.replicate 4 (0 : Int)) (List.replicate 4 (0 : Int)))
theorem e0 (k : Nat) : u0 k = t0 (l1 k k) := by kernel_rfl
theorem d0 {x1 y1 : T1} (h1 : x1 = y1) : t0 x1 = t0 y1 := by subst h1; rfl
def p0 (k : Nat) : T0 := t0 (p1 k k)
theorem o0 (k : Nat) : u0 k = p0 k := (Eq.trans (b := t0 (l1 k k)) (e0 k) (Eq.trans (b := t0 (p1 k k)) (d0 (o1 k k)) (by kernel_rfl)))
end bytesets_Or
def s_bytesets_Or (a : (List (List (Int))) × (Unit)) : Option ((List (Int)) × (Unit)) := bytesets_Or.p0 (fuel) a.1
noncomputable def F_bytesets_Or : FSpec cx.toNm := { ps := [.val (.slice 26 (.agg (.arr 4 (.int .u64))))], nres := 1, rt := (.agg (.arr 4 (.int .u64))), rm := .ro, f := s_bytesets_Or }
theorem w_bytesets_Or (a : (List (List (Int))) × (Unit)) : runOf (S := cx) bytesets_Or.E bytesets_Or.h (fuel) Tryd.f25 F_bytesets_Or.ps F_bytesets_Or.rt F_bytesets_Or.rm a = F_bytesets_Or.f a := Eq.trans (b := bytesets_Or.u0 (fuel) a.1) (by kernel_rfl) (Eq.trans (b := bytesets_Or.p0 (fuel) a.1) (congrFun (bytesets_Or.o0 (fuel)) a.1) (by kernel_rfl))
theorem ok_bytesets_Or : FnOk Tryd.prog F_bytesets_Or 25 := fn_of (hn := bytesets_Or.h) (E := bytesets_Or.E) cxOk (tysT _) fs_nil follows Tryd.func25 (by kernel_rfl) (fun a r h => ⟨fuel, Eq.trans (w_bytesets_Or a) h⟩)
namespace bytesets_And
noncomputable def E : Env cx := { tys := tys, fs := fsOf [(15, F_bytesets_Not), (25, F_bytesets_Or)] }
abbrev R := Option ((List (Int)) × (Unit))
abbrev C := Exit → ST cx → R
noncomputable def b : Code := bodyC Tryd.f23
noncomputable def h : Hint := { vs := [0, 1, 2, 3, 4], nil := [], cuts := [], ret := ([4], [2, 3, 4]), ords := [(1, [0, 2, 1, 3, 4, 5, 6, 7])] }
noncomputable def K0 : C := fin (S := cx) E Tryd.f23.results.toList (.agg (.arr 4 (.int .u64))) .ro [] []
noncomputable def c0 : Code := subC b [1]
noncomputable def K1 (k : Nat) : C := outD h c0 K0
noncomputable def K2 (k : Nat) : C := seqC E h k c0 K0
noncomputable def c1 : Code := subC b [1, 1]
noncomputable def K3 (k : Nat) : C := outD h c1 (K1 k)
noncomputable def K4 (k : Nat) : C := seqC E h k c1 (K1 k)
abbrev T0 := (List (Int)) → (List (Int)) → R
noncomputable def u0 (k : Nat) : T0 := fun (x0 x1 : List (Int)) => runOf (S := cx) E h k Tryd.f23 [.val (.agg (.arr 4 (.int .u64))), .val (.agg (.arr 4 (.int .u64)))] (.agg (.arr 4 (.int .u64))) .ro (x0, x1, ())
def t0 : T0 := fun (x0 x1 : List (Int)) => 
  (bindR (s_bytesets_Not (x0, ())) fun r1 => (bindR (s_bytesets_Not (x1, ())) fun r2 => (bindR (s_bytesets_Or (([r1.1, r2.1] : List (List (Int))), ())) fun r3 => (bindR (s_bytesets_Not (r3.1, ())) fun r4 => (some (r4.1, ()))))))
theorem e0 (k : Nat) : u0 k = t0 := by kernel_rfl
def p0 (k : Nat) : T0 := t0
theorem o0 (k : Nat) : u0 k = p0 k := (Eq.trans (b := t0) (e0 k) (by kernel_rfl))
end bytesets_And
def s_bytesets_And (a : (List (Int)) × ((List (Int)) × (Unit))) : Option ((List (Int)) × (Unit)) := bytesets_And.p0 (fuel) a.1 a.2.1
noncomputable def F_bytesets_And : FSpec cx.toNm := { ps := [.val (.agg (.arr 4 (.int .u64))), .val (.agg (.arr 4 (.int .u64)))], nres := 1, rt := (.agg (.arr 4 (.int .u64))), rm := .ro, f := s_bytesets_And }
theorem w_bytesets_And (a : (List (Int)) × ((List (Int)) × (Unit))) : runOf (S := cx) bytesets_And.E bytesets_And.h (fuel) Tryd.f23 F_bytesets_And.ps F_bytesets_And.rt F_bytesets_And.rm a = F_bytesets_And.f a := Eq.trans (b := bytesets_And.u0 (fuel) a.1 a.2.1) (by kernel_rfl) (Eq.trans (b := bytesets_And.p0 (fuel) a.1 a.2.1) (congrFun (congrFun (bytesets_And.o0 (fuel)) a.1) a.2.1) (by kernel_rfl))
theorem ok_bytesets_And : FnOk Tryd.prog F_bytesets_And 23 := fn_of (hn := bytesets_And.h) (E := bytesets_And.E) cxOk (tysT _) (fs_cons ok_bytesets_Not (fs_cons ok_bytesets_Or fs_nil)) follows Tryd.func23 (by kernel_rfl) (fun a r h => ⟨fuel, Eq.trans (w_bytesets_And a) h⟩)
namespace bytesets_Less
noncomputable def E : Env cx := { tys := tys, fs := fsOf [(15, F_bytesets_Not), (23, F_bytesets_And)] }
abbrev R := Option ((List (Int)) × (Unit))
abbrev C := Exit → ST cx → R
noncomputable def b : Code := bodyC Tryd.f24
noncomputable def h : Hint := { vs := [0, 1, 2, 3, 4], nil := [], cuts := [], ret := ([4], [2, 3, 4]), ords := [] }
noncomputable def K0 : C := fin (S := cx) E Tryd.f24.results.toList (.agg (.arr 4 (.int .u64))) .ro [] []
noncomputable def c0 : Code := subC b [1]
noncomputable def K1 (k : Nat) : C := outD h c0 K0
noncomputable def K2 (k : Nat) : C := seqC E h k c0 K0
noncomputable def c1 : Code := subC b [1, 1]
noncomputable def K3 (k : Nat) : C := outD h c1 (K1 k)
noncomputable def K4 (k : Nat) : C := seqC E h k c1 (K1 k)
abbrev T0 := (List (Int)) → (List (Int)) → R
noncomputable def u0 (k : Nat) : T0 := fun (x0 x1 : List (Int)) => runOf (S := cx) E h k Tryd.f24 [.val (.agg (.arr 4 (.int .u64))), .val (.agg (.arr 4 (.int .u64)))] (.agg (.arr 4 (.int .u64))) .ro (x0, x1, ())
def t0 : T0 := fun (x0 x1 : List (Int)) => 
  (bindR (s_bytesets_Not (x1, ())) fun r1 => (bindR (s_bytesets_And (x0, (r1.1, ()))) fun r2 => (some (r2.1, ()))))
theorem e0 (k : Nat) : u0 k = t0 := by kernel_rfl
def p0 (k : Nat) : T0 := t0
theorem o0 (k : Nat) : u0 k = p0 k := (Eq.trans (b := t0) (e0 k) (by kernel_rfl))
end bytesets_Less
def s_bytesets_Less (a : (List (Int)) × ((List (Int)) × (Unit))) : Option ((List (Int)) × (Unit)) := bytesets_Less.p0 (fuel) a.1 a.2.1
noncomputable def F_bytesets_Less : FSpec cx.toNm := { ps := [.val (.agg (.arr 4 (.int .u64))), .val (.agg (.arr 4 (.int .u64)))], nres := 1, rt := (.agg (.arr 4 (.int .u64))), rm := .ro, f := s_bytesets_Less }
theorem w_bytesets_Less (a : (List (Int)) × ((List (Int)) × (Unit))) : runOf (S := cx) bytesets_Less.E bytesets_Less.h (fuel) Tryd.f24 F_bytesets_Less.ps F_bytesets_Less.rt F_bytesets_Less.rm a = F_bytesets_Less.f a := Eq.trans (b := bytesets_Less.u0 (fuel) a.1 a.2.1) (by kernel_rfl) (Eq.trans (b := bytesets_Less.p0 (fuel) a.1 a.2.1) (congrFun (congrFun (bytesets_Less.o0 (fuel)) a.1) a.2.1) (by kernel_rfl))
theorem ok_bytesets_Less : FnOk Tryd.prog F_bytesets_Less 24 := fn_of (hn := bytesets_Less.h) (E := bytesets_Less.E) cxOk (tysT _) (fs_cons ok_bytesets_Not (fs_cons ok_bytesets_And fs_nil)) follows Tryd.func24 (by kernel_rfl) (fun a r h => ⟨fuel, Eq.trans (w_bytesets_Less a) h⟩)
namespace bytesets_split
noncomputable def E : Env cx := { tys := tys, fs := fsOf [(23, F_bytesets_And), (24, F_bytesets_Less)] }
abbrev R := Option ((List (List (Int))) × (Unit))
abbrev C := Exit → ST cx → R
noncomputable def b : Code := bodyC Tryd.f22
noncomputable def h : Hint := { vs := [0, 1, 3, 4, 5, 7, 9, 10, 11, 12, 22, 23], nil := [(5, (.own .ro))], cuts := [(3, ([3, 5, 10, 11, 12], [3]), ([5], [])), (6, ([3, 5, 10, 11, 12, 22, 23], [3]), ([3, 5, 10, 11, 12], [3])), (10, ([3, 5, 10, 11, 12, 22, 23], [3]), ([3, 5, 10, 11, 12, 22, 23], [3])), (11, ([3, 5, 10, 11, 12], [3]), ([3, 5, 10, 11, 12], [3])), (12, ([5], []), ([5], []))], ret := ([4], [3, 7, 9]), ords := [(5, [0, 1, 3, 4, 7, 2, 5, 6])] }
noncomputable def K0 : C := fin (S := cx) E Tryd.f22.results.toList (.slice 26 (.agg (.arr 4 (.int .u64)))) .ro [] []
noncomputable def c0 : Code := subC b [1]
noncomputable def K1 (k : Nat) : C := outD h c0 K0
noncomputable def K2 (k : Nat) : C := seqC E h k c0 K0
noncomputable def c1 : Code := subC b [1, 1]
noncomputable def K3 (k : Nat) : C := outD h c1 (K1 k)
noncomputable def K4 (k : Nat) : C := seqC E h k c1 (K1 k)
noncomputable def c2 : Code := subC b [1, 1, 1]
noncomputable def K5 (k : Nat) : C := outD h c2 (K3 k)
noncomputable def K6 (k : Nat) : C := seqC E h k c2 (K3 k)
noncomputable def c3 : Code := subC b [1, 1, 0, 1]
noncomputable def K7 (k : Nat) : C := outD h c3 (K6 k)
noncomputable def K8 (k : Nat) : C := seqC E h k c3 (K6 k)
noncomputable def K9 (k : Nat) : C := blockK 0 (K7 k)
noncomputable def c4 : Code := subC b [1, 1, 0, 1, 0, 0]
noncomputable def K10 (k n1 : Nat) : C := loopD E h k c4 (K9 k) n1
noncomputable def c5 : Code := subC b [1, 1, 0, 1, 0, 0, 1]
noncomputable def K11 (k n1 : Nat) : C := outD h c5 (K10 k n1)
noncomputable def K12 (k n1 : Nat) : C := seqC E h k c5 (K10 k n1)
noncomputable def c6 : Code := subC b [1, 1, 0, 1, 0, 0, 1, 1]
noncomputable def K13 (k n1 : Nat) : C := outD h c6 (K11 k n1)
noncomputable def K14 (k n1 : Nat) : C := seqC E h k c6 (K11 k n1)
noncomputable def c7 : Code := subC b [1, 1, 0, 1, 0, 0, 1, 1, 1]
noncomputable def K15 (k n1 : Nat) : C := outD h c7 (K13 k n1)
noncomputable def K16 (k n1 : Nat) : C := seqC E h k c7 (K13 k n1)
noncomputable def K17 (k n1 : Nat) : C := blockK 1 (K16 k n1)
noncomputable def c8 : Code := subC b [1, 1, 0, 1, 0, 0, 1, 1, 0, 0, 1]
noncomputable def K18 (k n1 : Nat) : C := outD h c8 (K17 k n1)
noncomputable def K19 (k n1 : Nat) : C := seqC E h k c8 (K17 k n1)
noncomputable def c9 : Code := subC b [1, 1, 0, 1, 0, 0, 1, 1, 0, 0, 1, 1]
noncomputable def K20 (k n1 : Nat) : C := outD h c9 (K18 k n1)
noncomputable def K21 (k n1 : Nat) : C := seqC E h k c9 (K18 k n1)
noncomputable def K22 (k n1 : Nat) : C := blockK 2 (K20 k n1)
noncomputable def c10 : Code := subC b [1, 1, 0, 1, 0, 0, 1, 1, 0, 0, 1, 1, 0, 0]
noncomputable def K23 (k n1 n2 : Nat) : C := loopD E h k c10 (K22 k n1) n2
noncomputable def c11 : Code := subC b [1, 1, 0, 1, 0, 0, 1, 1, 0, 0, 1, 1, 0, 0, 1]
noncomputable def K24 (k n1 n2 : Nat) : C := outD h c11 (K23 k n1 n2)
noncomputable def K25 (k n1 n2 : Nat) : C := seqC E h k c11 (K23 k n1 n2)
noncomputable def c12 : Code := subC b [1, 1, 0, 1, 0, 0, 1, 1, 0, 0, 1, 1, 0, 0, 1, 1]
noncomputable def K26 (k n1 n2 : Nat) : C := outD h c12 (K24 k n1 n2)
noncomputable def K27 (k n1 n2 : Nat) : C := seqC E h k c12 (K24 k n1 n2)
noncomputable def c13 : Code := subC b [1, 1, 0, 1, 0, 0, 1, 1, 0, 0, 1, 1, 0, 0, 1, 1, 1]
noncomputable def K28 (k n1 n2 : Nat) : C := outD h c13 (K26 k n1 n2)
noncomputable def K29 (k n1 n2 : Nat) : C := seqC E h k c13 (K26 k n1 n2)
noncomputable def K30 (k n1 n2 : Nat) : C := blockK 3 (K29 k n1 n2)
noncomputable def c14 : Code := subC b [1, 1, 0, 1, 0, 0, 1, 1, 0, 0, 1, 1, 0, 0, 1, 1, 0, 0, 1]
noncomputable def K31 (k n1 n2 : Nat) : C := outD h c14 (K30 k n1 n2)
noncomputable def K32 (k n1 n2 : Nat) : C := seqC E h k c14 (K30 k n1 n2)
noncomputable def c15 : Code := subC b [1, 1, 0, 1, 0, 0, 1, 1, 0, 0, 1, 1, 0, 0, 1, 1, 0, 0, 1, 1]
noncomputable def K33 (k n1 n2 : Nat) : C := outD h c15 (K31 k n1 n2)
noncomputable def K34 (k n1 n2 : Nat) : C := seqC E h k c15 (K31 k n1 n2)
noncomputable def c16 : Code := subC b [1, 1, 1, 1]
noncomputable def K35 (k : Nat) : C := outD h c16 (K5 k)
noncomputable def K36 (k : Nat) : C := seqC E h k c16 (K5 k)
abbrev T4 := (List (List (Int))) → (List (List (Int))) → Int → Int → (List (List (Int))) → Int → (List (Int)) → R
abbrev T5 := (List (List (Int))) → (List (List (Int))) → Int → Int → (List (Int)) → R
abbrev T2 := (List (List (Int))) → (List (List (Int))) → Int → Int → (List (List (Int))) → Int → (List (Int)) → R
abbrev T3 := (List (List (Int))) → R
abbrev T1 := (List (List (Int))) → (List (List (Int))) → Int → Int → (List (Int)) → R
abbrev T0 := (List (List (Int))) → (List (Int)) → R
abbrev s4 : (List (List (Int))) → (List (List (Int))) → Int → Int → (List (List (Int))) → Int → (List (Int)) → ST cx := fun (x5 x10 : List (List (Int))) (x11 x12 : Int) (x22 : List (List (Int))) (x23 : Int) (m3 : List (Int)) => ({ vars := [(3, .addr (.mem 3) []), (5, .v (.slice 26 (.agg (.arr 4 (.int .u64)))) (.own .ro) x5), (10, .v (.slice 26 (.agg (.arr 4 (.int .u64)))) .ro x10), (11, .v (.int .i64) .ro x11), (12, .v (.int .i64) .ro x12), (22, .v (.agg (.arr 2 (.agg (.arr 4 (.int .u64))))) .ro x22), (23, .v (.int .i64) .ro x23)], scr := [], mems := [(3, ⟨(.agg (.arr 4 (.int .u64))), .ro, m3⟩)] } : ST cx)
noncomputable def u4 (k n1 n2 : Nat) : T4 := fun (x5 x10 : List (List (Int))) (x11 x12 : Int) (x22 : List (List (Int))) (x23 : Int) (m3 : List (Int)) => uK (run E h k c13) (s4 x5 x10 x11 x12 x22 x23 m3) (K28 k n1 n2)
noncomputable abbrev l4 (k n1 n2 : Nat) : T4 := fun (x5 x10 : List (List (Int))) (x11 x12 : Int) (x22 : List (List (Int))) (x23 : Int) (m3 : List (Int)) => cutK (run E h k c13) (s4 x5 x10 x11 x12 x22 x23 m3) (K28 k n1 n2)
abbrev s5 : (List (List (Int))) → (List (List (Int))) → Int → Int → (List (Int)) → ST cx := fun (x5 x10 : List (List (Int))) (x11 x12 : Int) (m3 : List (Int)) => ({ vars := [(3, .addr (.mem 3) []), (5, .v (.slice 26 (.agg (.arr 4 (.int .u64)))) (.own .ro) x5), (10, .v (.slice 26 (.agg (.arr 4 (.int .u64)))) .ro x10), (11, .v (.int .i64) .ro x11), (12, .v (.int .i64) .ro x12)], scr := [], mems := [(3, ⟨(.agg (.arr 4 (.int .u64))), .ro, m3⟩)] } : ST cx)
noncomputable def u5 (k n1 : Nat) : T5 := fun (x5 x10 : List (List (Int))) (x11 x12 : Int) (m3 : List (Int)) => uK (run E h k c7) (s5 x5 x10 x11 x12 m3) (K15 k n1)
noncomputable abbrev l5 (k n1 : Nat) : T5 := fun (x5 x10 : List (List (Int))) (x11 x12 : Int) (m3 : List (Int)) => cutK (run E h k c7) (s5 x5 x10 x11 x12 m3) (K15 k n1)
abbrev s2 : (List (List (Int))) → (List (List (Int))) → Int → Int → (List (List (Int))) → Int → (List (Int)) → ST cx := fun (x5 x10 : List (List (Int))) (x11 x12 : Int) (x22 : List (List (Int))) (x23 : Int) (m3 : List (Int)) => ({ vars := [(3, .addr (.mem 3) []), (5, .v (.slice 26 (.agg (.arr 4 (.int .u64)))) (.own .ro) x5), (10, .v (.slice 26 (.agg (.arr 4 (.int .u64)))) .ro x10), (11, .v (.int .i64) .ro x11), (12, .v (.int .i64) .ro x12), (22, .v (.agg (.arr 2 (.agg (.arr 4 (.int .u64))))) .ro x22), (23, .v (.int .i64) .ro x23)], scr := [], mems := [(3, ⟨(.agg (.arr 4 (.int .u64))), .ro, m3⟩)] } : ST cx)
noncomputable def u2 (k n1 n2 : Nat) : T2 := fun (x5 x10 : List (List (Int))) (x11 x12 : Int) (x22 : List (List (Int))) (x23 : Int) (m3 : List (Int)) => uK (loopL E h k c10 (K22 k n1) n2) (s2 x5 x10 x11 x12 x22 x23 m3) ()
noncomputable abbrev l2 (k n1 n2 : Nat) : T2 := fun (x5 x10 : List (List (Int))) (x11 x12 : Int) (x22 : List (List (Int))) (x23 : Int) (m3 : List (Int)) => cutK (loopL E h k c10 (K22 k n1) n2) (s2 x5 x10 x11 x12 x22 x23 m3) ()
abbrev s3 : (List (List (Int))) → ST cx := fun (x5 : List (List (Int))) => ({ vars := [(5, .v (.slice 26 (.agg (.arr 4 (.int .u64)))) (.own .ro) x5)], scr := [], mems := [] } : ST cx)
noncomputable def u3 (k : Nat) : T3 := fun (x5 : List (List (Int))) => uK (run E h k c2) (s3 x5) (K5 k)
noncomputable abbrev l3 (k : Nat) : T3 := fun (x5 : List (List (Int))) => cutK (run E h k c2) (s3 x5) (K5 k)
abbrev s1 : (List (List (Int))) → (List (List (Int))) → Int → Int → (List (Int)) → ST cx := fun (x5 x10 : List (List (Int))) (x11 x12 : Int) (m3 : List (Int)) => ({ vars := [(3, .addr (.mem 3) []), (5, .v (.slice 26 (.agg (.arr 4 (.int .u64)))) (.own .ro) x5), (10, .v (.slice 26 (.agg (.arr 4 (.int .u64)))) .ro x10), (11, .v (.int .i64) .ro x11), (12, .v (.int .i64) .ro x12)], scr := [], mems := [(3, ⟨(.agg (.arr 4 (.int .u64))), .ro, m3⟩)] } : ST cx)
noncomputable def u1 (k n1 : Nat) : T1 := fun (x5 x10 : List (List (Int))) (x11 x12 : Int) (m3 : List (Int)) => uK (loopL E h k c4 (K9 k) n1) (s1 x5 x10 x11 x12 m3) ()
noncomputable abbrev l1 (k n1 : Nat) : T1 := fun (x5 x10 : List (List (Int))) (x11 x12 : Int) (m3 : List (Int)) => cutK (loopL E h k c4 (K9 k) n1) (s1 x5 x10 x11 x12 m3) ()
noncomputable def u0 (k : Nat) : T0 := fun (x0 : List (List (Int))) (x1 : List (Int)) => runOf (S := cx) E h k Tryd.f22 [.val (.slice 26 (.agg (.arr 4 (.int .u64)))), .val (.agg (.arr 4 (.int .u64)))] (.slice 26 (.agg (.arr 4 (.int .u64)))) .ro (x0, x1, ())
def t4 (f2 : T2) : T4 := fun (x5 x10 : List (List (Int))) (x11 x12 : Int) (x22 : List (List (Int))) (x23 : Int) (m3 : List (Int)) => 
  (f2 x5 x10 x11 x12 x22 (w64 (x23 + (1 : Int))) m3)
theorem e4 (k n1 n2 : Nat) : u4 k n1 n2 = t4 (l2 k n1 n2) := by kernel_rfl
theorem g4 (k n1 n2 : Nat) : l4 k n1 n2 = u4 k n1 n2 := funext fun _ => funext fun _ => funext fun _ => funext fun _ => funext fun _ => funext fun _ => funext fun _ => cut_u _ _ _
theorem d4 {x2 y2 : T2} (h2 : x2 = y2) : t4 x2 = t4 y2 := by subst h2; rfl
def p4 (k : Nat) (a1 : T1) (a2 : T2) : T4 := t4 a2
theorem o4 (k n1 n2 : Nat) (a1 : T1) (a2 : T2) (h1 : l1 k n1 = a1) (h2 : l2 k n1 n2 = a2) : l4 k n1 n2 = p4 k a1 a2 := (Eq.trans (b := u4 k n1 n2) (g4 k n1 n2) (Eq.trans (b := t4 (l2 k n1 n2)) (e4 k n1 n2) (Eq.trans (b := t4 a2) (d4 h2) (by kernel_rfl))))
def t5 (f1 : T1) : T5 := fun (x5 x10 : List (List (Int))) (x11 x12 : Int) (m3 : List (Int)) => 
  (f1 x5 x10 x11 (w64 (x12 + (1 : Int))) m3)
theorem e5 (k n1 : Nat) : u5 k n1 = t5 (l1 k n1) := by kernel_rfl
theorem g5 (k n1 : Nat) : l5 k n1 = u5 k n1 := funext fun _ => funext fun _ => funext fun _ => funext fun _ => funext fun _ => cut_u _ _ _
theorem d5 {x1 y1 : T1} (h1 : x1 = y1) : t5 x1 = t5 y1 := by subst h1; rfl
def p5 (k : Nat) (a1 : T1) : T5 := t5 a1
theorem o5 (k n1 : Nat) (a1 : T1) (h1 : l1 k n1 = a1) : l5 k n1 = p5 k a1 := (Eq.trans (b := u5 k n1) (g5 k n1) (Eq.trans (b := t5 (l1 k n1)) (e5 k n1) (Eq.trans (b := t5 a1) (d5 h1) (by kernel_rfl))))
def t2 (f4 : T4) (f5 : T5) : T2 := fun (x5 x10 : List (List (Int))) (x11 x12 : Int) (x22 : List (List (Int))) (x23 : Int) (m3 : List (Int)) => 
  (iteB (decide (x23 < (2 : Int))) (withinR x23 2 fun q4 => (iteB (!(decide ((List.getD x22 q4 (List.replicate 4 (0 : Int))) = (List.replicate 4 (0 : Int))))) (mustR (room x5 ([(List.getD x22 q4 (List.replicate 4 (0 : Int)))] : List (List (Int)))) (f4 (x5 ++ ([(List.getD x22 q4 (List.replicate 4 (0 : Int)))] : List (List (Int)))) x10 x11 x12 x22 x23 m3)) (f4 x5 x10 x11 x12 x22 x23 m3))) (f5 x5 x10 x11 x12 m3))
theorem e2 (k n1 n2 : Nat) : u2 k n1 (n2 + 1) = t2 (l4 k n1 n2) (l5 k n1) := by kernel_rfl
theorem g2 (k n1 n2 : Nat) : l2 k n1 (n2 + 1) = u2 k n1 (n2 + 1) := funext fun _ => funext fun _ => funext fun _ => funext fun _ => funext fun _ => funext fun _ => funext fun _ => cut_u _ _ _
theorem d2 {x4 y4 : T4} {x5 y5 : T5} (h4 : x4 = y4) (h5 : x5 = y5) : t2 x4 x5 = t2 y4 y5 := by subst h4; subst h5; rfl
def p2 (k : Nat) (a1 : T1) : Nat → T2
  | 0 => fun _ _ _ _ _ _ _ => none
  | n2 + 1 => t2 (p4 k a1 (p2 k a1 n2)) (p5 k a1)
theorem o2 (k n1 : Nat) (a1 : T1) (h1 : l1 k n1 = a1) : ∀ n2, l2 k n1 n2 = p2 k a1 n2 := by
  intro n2
  induction n2 with
  | zero => kernel_rfl
  | succ n2 ih => exact (Eq.trans (b := u2 k n1 (n2 + 1)) (g2 k n1 n2) (Eq.trans (b := t2 (l4 k n1 n2) (l5 k n1)) (e2 k n1 n2) (Eq.trans (b := t2 (p4 k a1 (p2 k a1 n2)) (p5 k a1)) (d2 (o4 k n1 n2 a1 (p2 k a1 n2) h1 ih) (o5 k n1 a1 h1)) (by kernel_rfl))))
def t3 : T3 := fun (x5 : List (List (Int))) => 
  (some (x5, ()))
theorem e3 (k : Nat) : u3 k = t3 := by kernel_rfl
theorem g3 (k : Nat) : l3 k = u3 k := funext fun _ => cut_u _ _ _
def p3 (k : Nat) : T3 := t3
theorem o3 (k : Nat) : l3 k = p3 k := (Eq.trans (b := u3 k) (g3 k) (Eq.trans (b := t3) (e3 k) (by kernel_rfl)))
def t1 (f2 : T2) (f3 : T3) : T1 := fun (x5 x10 : List (List (Int))) (x11 x12 : Int) (m3 : List (Int)) => 
  (iteB (decide (x12 < x11)) (withinR x12 (List.length x10) fun q1 => (bindR (s_bytesets_And ((List.getD x10 q1 (List.replicate 4 (0 : Int))), (m3, ()))) fun r2 => (bindR (s_bytesets_Less ((List.getD x10 q1 (List.replicate 4 (0 : Int))), (m3, ()))) fun r3 => (f2 x5 x10 x11 x12 (List.set (List.set (List.replicate 2 (List.replicate 4 (0 : Int))) 0 r2.1) 1 r3.1) (0 : Int) m3)))) (f3 x5))
theorem e1 (k n1 : Nat) : u1 k (n1 + 1) = t1 (l2 k n1 k) (l3 k) := by kernel_rfl
theorem g1 (k n1 : Nat) : l1 k (n1 + 1) = u1 k (n1 + 1) := funext fun _ => funext fun _ => funext fun _ => funext fun _ => funext fun _ => cut_u _ _ _
theorem d1 {x2 y2 : T2} {x3 y3 : T3} (h2 : x2 = y2) (h3 : x3 = y3) : t1 x2 x3 = t1 y2 y3 := by subst h2; subst h3; rfl
def p1 (k : Nat) : Nat → T1
  | 0 => fun _ _ _ _ _ => none
  | n1 + 1 => t1 (p2 k (p1 k n1) k) (p3 k)
theorem o1 (k : Nat) : ∀ n1, l1 k n1 = p1 k n1 := by
  intro n1
  induction n1 with
  | zero => kernel_rfl
  | succ n1 ih => exact (Eq.trans (b := u1 k (n1 + 1)) (g1 k n1) (Eq.trans (b := t1 (l2 k n1 k) (l3 k)) (e1 k n1) (Eq.trans (b := t1 (p2 k (p1 k n1) k) (p3 k)) (d1 (o2 k n1 (p1 k n1) ih k) (o3 k)) (by kernel_rfl))))
def t0 (f1 : T1) : T0 := fun (x0 : List (List (Int))) (x1 : List (Int)) => 
  (f1 ([] : List (List (Int))) x0 ((List.length x0 : Nat) : Int) (0 : Int) x1)
theorem e0 (k : Nat) : u0 k = t0 (l1 k k) := by kernel_rfl
theorem d0 {x1 y1 : T1} (h1 : x1 = y1) : t0 x1 = t0 y1 := by subst h1; rfl
def p0 (k : Nat) : T0 := t0 (p1 k k)
theorem o0 (k : Nat) : u0 k = p0 k := (Eq.trans (b := t0 (l1 k k)) (e0 k) (Eq.trans (b := t0 (p1 k k)) (d0 (o1 k k)) (by kernel_rfl)))
end bytesets_split
def s_bytesets_split (a : (List (List (Int))) × ((List (Int)) × (Unit))) : Option ((List (List (Int))) × (Unit)) := bytesets_split.p0 (fuel) a.1 a.2.1
noncomputable def F_bytesets_split : FSpec cx.toNm := { ps := [.val (.slice 26 (.agg (.arr 4 (.int .u64)))), .val (.agg (.arr 4 (.int .u64)))], nres := 1, rt := (.slice 26 (.agg (.arr 4 (.int .u64)))), rm := .ro, f := s_bytesets_split }
theorem w_bytesets_split (a : (List (List (Int))) × ((List (Int)) × (Unit))) : runOf (S := cx) bytesets_split.E bytesets_split.h (fuel) Tryd.f22 F_bytesets_split.ps F_bytesets_split.rt F_bytesets_split.rm a = F_bytesets_split.f a := Eq.trans (b := bytesets_split.u0 (fuel) a.1 a.2.1) (by kernel_rfl) (Eq.trans (b := bytesets_split.p0 (fuel) a.1 a.2.1) (congrFun (congrFun (bytesets_split.o0 (fuel)) a.1) a.2.1) (by kernel_rfl))
theorem ok_bytesets_split : FnOk Tryd.prog F_bytesets_split 22 := fn_of (hn := bytesets_split.h) (E := bytesets_split.E) cxOk (tysT _) (fs_cons ok_bytesets_And (fs_cons ok_bytesets_Less fs_nil)) follows Tryd.func22 (by kernel_rfl) (fun a r h => ⟨fuel, Eq.trans (w_bytesets_split a) h⟩)
namespace bytesets_Classes
noncomputable def E : Env cx := { tys := tys, fs := fsOf [(12, F_bytesets_Has), (13, F_bytesets_All), (22, F_bytesets_split)] }
abbrev R := Option (((List (Int)) × (Int)) × (Unit))
abbrev C := Exit → ST cx → R
noncomputable def b : Code := bodyC Tryd.f14
noncomputable def h : Hint := { vs := [0, 2, 3, 4, 6, 7, 8, 9, 11, 13, 16, 17, 18, 27, 30, 31, 32], nil := [(7, .ro), (8, (.pr .dd .dd))], cuts := [(3, ([2, 4, 16, 17, 18], [2]), ([2, 4], [2])), (7, ([2, 4], [2]), ([2, 4], [2])), (10, ([2, 4, 7, 8, 27], [2, 7]), ([2, 4, 7], [2, 7])), (13, ([2, 4, 7, 8, 9, 27, 30, 31, 32], [2, 7]), ([2, 4, 7, 8, 27], [2, 7])), (19, ([2, 4, 7, 8, 9, 11, 27, 30, 31, 32], [2, 7, 11]), ([2, 4, 7, 8, 9, 27, 30, 31, 32], [2, 7])), (20, ([2, 4, 7, 8, 9, 27, 30, 31, 32], [2, 7]), ([2, 4, 7, 8, 9, 27, 30, 31, 32], [2, 7])), (21, ([2, 4, 7, 8, 27], [2, 7]), ([2, 4, 7, 8, 27], [2, 7])), (22, ([2, 4, 7], [2, 7]), ([2, 4, 7], [2, 7]))], ret := ([2, 3], [2, 6, 7, 11]), ords := [] }
noncomputable def K0 : C := fin (S := cx) E Tryd.f14.results.toList (.pair (.agg (.arr 256 (.int .u8))) (.int .i64)) .ro [] []
noncomputable def c0 : Code := subC b [1]
noncomputable def K1 (k : Nat) : C := outD h c0 K0
noncomputable def K2 (k : Nat) : C := seqC E h k c0 K0
noncomputable def c1 : Code := subC b [1, 1]
noncomputable def K3 (k : Nat) : C := outD h c1 (K1 k)
noncomputable def K4 (k : Nat) : C := seqC E h k c1 (K1 k)
noncomputable def c2 : Code := subC b [1, 1, 1]
noncomputable def K5 (k : Nat) : C := outD h c2 (K3 k)
noncomputable def K6 (k : Nat) : C := seqC E h k c2 (K3 k)
noncomputable def c3 : Code := subC b [1, 1, 0, 1]
noncomputable def K7 (k : Nat) : C := outD h c3 (K6 k)
noncomputable def K8 (k : Nat) : C := seqC E h k c3 (K6 k)
noncomputable def K9 (k : Nat) : C := blockK 0 (K7 k)
noncomputable def c4 : Code := subC b [1, 1, 0, 1, 0, 0]
noncomputable def K10 (k n1 : Nat) : C := loopD E h k c4 (K9 k) n1
noncomputable def c5 : Code := subC b [1, 1, 0, 1, 0, 0, 1]
noncomputable def K11 (k n1 : Nat) : C := outD h c5 (K10 k n1)
noncomputable def K12 (k n1 : Nat) : C := seqC E h k c5 (K10 k n1)
noncomputable def c6 : Code := subC b [1, 1, 0, 1, 0, 0, 1, 1]
noncomputable def K13 (k n1 : Nat) : C := outD h c6 (K11 k n1)
noncomputable def K14 (k n1 : Nat) : C := seqC E h k c6 (K11 k n1)
noncomputable def c7 : Code := subC b [1, 1, 0, 1, 0, 0, 1, 1, 1]
noncomputable def K15 (k n1 : Nat) : C := outD h c7 (K13 k n1)
noncomputable def K16 (k n1 : Nat) : C := seqC E h k c7 (K13 k n1)
noncomputable def K17 (k n1 : Nat) : C := blockK 1 (K16 k n1)
noncomputable def c8 : Code := subC b [1, 1, 0, 1, 0, 0, 1, 1, 0, 0, 1]
noncomputable def K18 (k n1 : Nat) : C := outD h c8 (K17 k n1)
noncomputable def K19 (k n1 : Nat) : C := seqC E h k c8 (K17 k n1)
noncomputable def c9 : Code := subC b [1, 1, 1, 1]
noncomputable def K20 (k : Nat) : C := outD h c9 (K5 k)
noncomputable def K21 (k : Nat) : C := seqC E h k c9 (K5 k)
noncomputable def c10 : Code := subC b [1, 1, 1, 1, 1]
noncomputable def K22 (k : Nat) : C := outD h c10 (K20 k)
noncomputable def K23 (k : Nat) : C := seqC E h k c10 (K20 k)
noncomputable def c11 : Code := subC b [1, 1, 1, 1, 1, 1]
noncomputable def K24 (k : Nat) : C := outD h c11 (K22 k)
noncomputable def K25 (k : Nat) : C := seqC E h k c11 (K22 k)
noncomputable def c12 : Code := subC b [1, 1, 1, 1, 1, 0, 1]
noncomputable def K26 (k : Nat) : C := outD h c12 (K25 k)
noncomputable def K27 (k : Nat) : C := seqC E h k c12 (K25 k)
noncomputable def K28 (k : Nat) : C := blockK 2 (K26 k)
noncomputable def c13 : Code := subC b [1, 1, 1, 1, 1, 0, 1, 0, 0]
noncomputable def K29 (k n3 : Nat) : C := loopD E h k c13 (K28 k) n3
noncomputable def c14 : Code := subC b [1, 1, 1, 1, 1, 0, 1, 0, 0, 1]
noncomputable def K30 (k n3 : Nat) : C := outD h c14 (K29 k n3)
noncomputable def K31 (k n3 : Nat) : C := seqC E h k c14 (K29 k n3)
noncomputable def c15 : Code := subC b [1, 1, 1, 1, 1, 0, 1, 0, 0, 1, 1]
noncomputable def K32 (k n3 : Nat) : C := outD h c15 (K30 k n3)
noncomputable def K33 (k n3 : Nat) : C := seqC E h k c15 (K30 k n3)
noncomputable def c16 : Code := subC b [1, 1, 1, 1, 1, 0, 1, 0, 0, 1, 1, 1]
noncomputable def K34 (k n3 : Nat) : C := outD h c16 (K32 k n3)
noncomputable def K35 (k n3 : Nat) : C := seqC E h k c16 (K32 k n3)
noncomputable def K36 (k n3 : Nat) : C := blockK 3 (K35 k n3)
noncomputable def c17 : Code := subC b [1, 1, 1, 1, 1, 0, 1, 0, 0, 1, 1, 0, 0, 1]
noncomputable def K37 (k n3 : Nat) : C := outD h c17 (K36 k n3)
noncomputable def K38 (k n3 : Nat) : C := seqC E h k c17 (K36 k n3)
noncomputable def c18 : Code := subC b [1, 1, 1, 1, 1, 0, 1, 0, 0, 1, 1, 0, 0, 1, 1]
noncomputable def K39 (k n3 : Nat) : C := outD h c18 (K37 k n3)
noncomputable def K40 (k n3 : Nat) : C := seqC E h k c18 (K37 k n3)
noncomputable def K41 (k n3 : Nat) : C := blockK 4 (K39 k n3)
noncomputable def c19 : Code := subC b [1, 1, 1, 1, 1, 0, 1, 0, 0, 1, 1, 0, 0, 1, 1, 0, 0]
noncomputable def K42 (k n3 n4 : Nat) : C := loopD E h k c19 (K41 k n3) n4
noncomputable def c20 : Code := subC b [1, 1, 1, 1, 1, 0, 1, 0, 0, 1, 1, 0, 0, 1, 1, 0, 0, 1]
noncomputable def K43 (k n3 n4 : Nat) : C := outD h c20 (K42 k n3 n4)
noncomputable def K44 (k n3 n4 : Nat) : C := seqC E h k c20 (K42 k n3 n4)
noncomputable def c21 : Code := subC b [1, 1, 1, 1, 1, 0, 1, 0, 0, 1, 1, 0, 0, 1, 1, 0, 0, 1, 1]
noncomputable def K45 (k n3 n4 : Nat) : C := outD h c21 (K43 k n3 n4)
noncomputable def K46 (k n3 n4 : Nat) : C := seqC E h k c21 (K43 k n3 n4)
noncomputable def c22 : Code := subC b [1, 1, 1, 1, 1, 0, 1, 0, 0, 1, 1, 0, 0, 1, 1, 0, 0, 1, 1, 1]
noncomputable def K47 (k n3 n4 : Nat) : C := outD h c22 (K45 k n3 n4)
noncomputable def K48 (k n3 n4 : Nat) : C := seqC E h k c22 (K45 k n3 n4)
noncomputable def K49 (k n3 n4 : Nat) : C := blockK 5 (K48 k n3 n4)
noncomputable def c23 : Code := subC b [1, 1, 1, 1, 1, 0, 1, 0, 0, 1, 1, 0, 0, 1, 1, 0, 0, 1, 1, 0, 0, 1]
noncomputable def K50 (k n3 n4 : Nat) : C := outD h c23 (K49 k n3 n4)
noncomputable def K51 (k n3 n4 : Nat) : C := seqC E h k c23 (K49 k n3 n4)
noncomputable def c24 : Code := subC b [1, 1, 1, 1, 1, 0, 1, 0, 0, 1, 1, 0, 0, 1, 1, 0, 0, 1, 1, 0, 0, 1, 1]
noncomputable def K52 (k n3 n4 : Nat) : C := outD h c24 (K50 k n3 n4)
noncomputable def K53 (k n3 n4 : Nat) : C := seqC E h k c24 (K50 k n3 n4)
noncomputable def c25 : Code := subC b [1, 1, 1, 1, 1, 0, 1, 0, 0, 1, 1, 0, 0, 1, 1, 0, 0, 1, 1, 0, 0, 1, 0, 1]
noncomputable def K54 (k n3 n4 : Nat) : C := outD h c25 (K53 k n3 n4)
noncomputable def K55 (k n3 n4 : Nat) : C := seqC E h k c25 (K53 k n3 n4)
noncomputable def c26 : Code := subC b [1, 1, 1, 1, 1, 0, 1, 0, 0, 1, 1, 0, 0, 1, 1, 0, 0, 1, 1, 0, 0, 1, 1, 1]
noncomputable def K56 (k n3 n4 : Nat) : C := outD h c26 (K52 k n3 n4)
noncomputable def K57 (k n3 n4 : Nat) : C := seqC E h k c26 (K52 k n3 n4)
noncomputable def c27 : Code := subC b [1, 1, 1, 1, 1, 0, 1, 0, 0, 1, 1, 0, 0, 1, 1, 0, 0, 1, 1, 0, 0, 1, 1, 0, 1]
noncomputable def K58 (k n3 n4 : Nat) : C := outD h c27 (K57 k n3 n4)
noncomputable def K59 (k n3 n4 : Nat) : C := seqC E h k c27 (K57 k n3 n4)
noncomputable def c28 : Code := subC b [1, 1, 1, 1, 1, 0, 1, 0, 0, 1, 1, 0, 0, 1, 1, 0, 0, 1, 1, 0, 0, 1, 1, 0, 1, 1]
noncomputable def K60 (k n3 n4 : Nat) : C := outD h c28 (K58 k n3 n4)
noncomputable def K61 (k n3 n4 : Nat) : C := seqC E h k c28 (K58 k n3 n4)
noncomputable def c29 : Code := subC b [1, 1, 1, 1, 1, 1, 1]
noncomputable def K62 (k : Nat) : C := outD h c29 (K24 k)
noncomputable def K63 (k : Nat) : C := seqC E h k c29 (K24 k)
abbrev T6 := (List (List (Int))) → (List ((List (Int)) × (Int))) → Int → Int → (List (List (Int))) → Int → Int → (List (Int)) → (List (Int)) → R
abbrev T7 := (List (List (Int))) → (List ((List (Int)) × (Int))) → Int → Int → (List (List (Int))) → Int → Int → (List (Int)) → (List (Int)) → (List (Int)) → R
abbrev T8 := (List (List (Int))) → (List ((List (Int)) × (Int))) → Int → (List (Int)) → (List (Int)) → R
abbrev T4 := (List (List (Int))) → (List ((List (Int)) × (Int))) → Int → Int → (List (List (Int))) → Int → Int → (List (Int)) → (List (Int)) → R
abbrev T5 := (List (List (Int))) → (List (Int)) → (List (Int)) → R
abbrev T3 := (List (List (Int))) → (List ((List (Int)) × (Int))) → Int → (List (Int)) → (List (Int)) → R
abbrev T2 := (List (List (Int))) → (List (Int)) → R
abbrev T1 := (List (List (Int))) → (List (List (Int))) → Int → Int → (List (Int)) → R
abbrev T0 := (List (List (Int))) → R
abbrev s6 : (List (List (Int))) → (List ((List (Int)) × (Int))) → Int → Int → (List (List (Int))) → Int → Int → (List (Int)) → (List (Int)) → ST cx := fun (x4 : List (List (Int))) (x8 : List ((List (Int)) × (Int))) (x9 x27 : Int) (x30 : List (List (Int))) (x31 x32 : Int) (m2 m7 : List (Int)) => ({ vars := [(2, .addr (.mem 2) []), (4, .v (.slice 26 (.agg (.arr 4 (.int .u64)))) .ro x4), (7, .addr (.mem 7) []), (8, .v (.map (.agg (.arr 4 (.int .u64))) (.int .u8)) (.pr .dd .dd) x8), (9, .v (.int .i64) .ro x9), (27, .v (.int .i64) .ro x27), (30, .v (.slice 26 (.agg (.arr 4 (.int .u64)))) .ro x30), (31, .v (.int .i64) .ro x31), (32, .v (.int .i64) .ro x32)], scr := [], mems := [(2, ⟨(.agg (.arr 256 (.int .u8))), .ro, m2⟩), (7, ⟨(.agg (.arr 256 (.int .u8))), .ro, m7⟩)] } : ST cx)
noncomputable def u6 (k n3 n4 : Nat) : T6 := fun (x4 : List (List (Int))) (x8 : List ((List (Int)) × (Int))) (x9 x27 : Int) (x30 : List (List (Int))) (x31 x32 : Int) (m2 m7 : List (Int)) => uK (run E h k c22) (s6 x4 x8 x9 x27 x30 x31 x32 m2 m7) (K47 k n3 n4)
noncomputable abbrev l6 (k n3 n4 : Nat) : T6 := fun (x4 : List (List (Int))) (x8 : List ((List (Int)) × (Int))) (x9 x27 : Int) (x30 : List (List (Int))) (x31 x32 : Int) (m2 m7 : List (Int)) => cutK (run E h k c22) (s6 x4 x8 x9 x27 x30 x31 x32 m2 m7) (K47 k n3 n4)
abbrev s7 : (List (List (Int))) → (List ((List (Int)) × (Int))) → Int → Int → (List (List (Int))) → Int → Int → (List (Int)) → (List (Int)) → (List (Int)) → ST cx := fun (x4 : List (List (Int))) (x8 : List ((List (Int)) × (Int))) (x9 x27 : Int) (x30 : List (List (Int))) (x31 x32 : Int) (m2 m7 m11 : List (Int)) => ({ vars := [(2, .addr (.mem 2) []), (4, .v (.slice 26 (.agg (.arr 4 (.int .u64)))) .ro x4), (7, .addr (.mem 7) []), (8, .v (.map (.agg (.arr 4 (.int .u64))) (.int .u8)) (.pr .dd .dd) x8), (9, .v (.int .i64) .ro x9), (11, .addr (.mem 11) []), (27, .v (.int .i64) .ro x27), (30, .v (.slice 26 (.agg (.arr 4 (.int .u64)))) .ro x30), (31, .v (.int .i64) .ro x31), (32, .v (.int .i64) .ro x32)], scr := [], mems := [(2, ⟨(.agg (.arr 256 (.int .u8))), .ro, m2⟩), (7, ⟨(.agg (.arr 256 (.int .u8))), .ro, m7⟩), (11, ⟨(.agg (.arr 4 (.int .u64))), .ro, m11⟩)] } : ST cx)
noncomputable def u7 (k n3 n4 : Nat) : T7 := fun (x4 : List (List (Int))) (x8 : List ((List (Int)) × (Int))) (x9 x27 : Int) (x30 : List (List (Int))) (x31 x32 : Int) (m2 m7 m11 : List (Int)) => uK (run E h k c26) (s7 x4 x8 x9 x27 x30 x31 x32 m2 m7 m11) (K56 k n3 n4)
noncomputable abbrev l7 (k n3 n4 : Nat) : T7 := fun (x4 : List (List (Int))) (x8 : List ((List (Int)) × (Int))) (x9 x27 : Int) (x30 : List (List (Int))) (x31 x32 : Int) (m2 m7 m11 : List (Int)) => cutK (run E h k c26) (s7 x4 x8 x9 x27 x30 x31 x32 m2 m7 m11) (K56 k n3 n4)
abbrev s8 : (List (List (Int))) → (List ((List (Int)) × (Int))) → Int → (List (Int)) → (List (Int)) → ST cx := fun (x4 : List (List (Int))) (x8 : List ((List (Int)) × (Int))) (x27 : Int) (m2 m7 : List (Int)) => ({ vars := [(2, .addr (.mem 2) []), (4, .v (.slice 26 (.agg (.arr 4 (.int .u64)))) .ro x4), (7, .addr (.mem 7) []), (8, .v (.map (.agg (.arr 4 (.int .u64))) (.int .u8)) (.pr .dd .dd) x8), (27, .v (.int .i64) .ro x27)], scr := [], mems := [(2, ⟨(.agg (.arr 256 (.int .u8))), .ro, m2⟩), (7, ⟨(.agg (.arr 256 (.int .u8))), .ro, m7⟩)] } : ST cx)
noncomputable def u8 (k n3 : Nat) : T8 := fun (x4 : List (List (Int))) (x8 : List ((List (Int)) × (Int))) (x27 : Int) (m2 m7 : List (Int)) => uK (run E h k c16) (s8 x4 x8 x27 m2 m7) (K34 k n3)
noncomputable abbrev l8 (k n3 : Nat) : T8 := fun (x4 : List (List (Int))) (x8 : List ((List (Int)) × (Int))) (x27 : Int) (m2 m7 : List (Int)) => cutK (run E h k c16) (s8 x4 x8 x27 m2 m7) (K34 k n3)
abbrev s4 : (List (List (Int))) → (List ((List (Int)) × (Int))) → Int → Int → (List (List (Int))) → Int → Int → (List (Int)) → (List (Int)) → ST cx := fun (x4 : List (List (Int))) (x8 : List ((List (Int)) × (Int))) (x9 x27 : Int) (x30 : List (List (Int))) (x31 x32 : Int) (m2 m7 : List (Int)) => ({ vars := [(2, .addr (.mem 2) []), (4, .v (.slice 26 (.agg (.arr 4 (.int .u64)))) .ro x4), (7, .addr (.mem 7) []), (8, .v (.map (.agg (.arr 4 (.int .u64))) (.int .u8)) (.pr .dd .dd) x8), (9, .v (.int .i64) .ro x9), (27, .v (.int .i64) .ro x27), (30, .v (.slice 26 (.agg (.arr 4 (.int .u64)))) .ro x30), (31, .v (.int .i64) .ro x31), (32, .v (.int .i64) .ro x32)], scr := [], mems := [(2, ⟨(.agg (.arr 256 (.int .u8))), .ro, m2⟩), (7, ⟨(.agg (.arr 256 (.int .u8))), .ro, m7⟩)] } : ST cx)
noncomputable def u4 (k n3 n4 : Nat) : T4 := fun (x4 : List (List (Int))) (x8 : List ((List (Int)) × (Int))) (x9 x27 : Int) (x30 : List (List (Int))) (x31 x32 : Int) (m2 m7 : List (Int)) => uK (loopL E h k c19 (K41 k n3) n4) (s4 x4 x8 x9 x27 x30 x31 x32 m2 m7) ()
noncomputable abbrev l4 (k n3 n4 : Nat) : T4 := fun (x4 : List (List (Int))) (x8 : List ((List (Int)) × (Int))) (x9 x27 : Int) (x30 : List (List (Int))) (x31 x32 : Int) (m2 m7 : List (Int)) => cutK (loopL E h k c19 (K41 k n3) n4) (s4 x4 x8 x9 x27 x30 x31 x32 m2 m7) ()
abbrev s5 : (List (List (Int))) → (List (Int)) → (List (Int)) → ST cx := fun (x4 : List (List (Int))) (m2 m7 : List (Int)) => ({ vars := [(2, .addr (.mem 2) []), (4, .v (.slice 26 (.agg (.arr 4 (.int .u64)))) .ro x4), (7, .addr (.mem 7) [])], scr := [], mems := [(2, ⟨(.agg (.arr 256 (.int .u8))), .ro, m2⟩), (7, ⟨(.agg (.arr 256 (.int .u8))), .ro, m7⟩)] } : ST cx)
noncomputable def u5 (k : Nat) : T5 := fun (x4 : List (List (Int))) (m2 m7 : List (Int)) => uK (run E h k c11) (s5 x4 m2 m7) (K24 k)
noncomputable abbrev l5 (k : Nat) : T5 := fun (x4 : List (List (Int))) (m2 m7 : List (Int)) => cutK (run E h k c11) (s5 x4 m2 m7) (K24 k)
abbrev s3 : (List (List (Int))) → (List ((List (Int)) × (Int))) → Int → (List (Int)) → (List (Int)) → ST cx := fun (x4 : List (List (Int))) (x8 : List ((List (Int)) × (Int))) (x27 : Int) (m2 m7 : List (Int)) => ({ vars := [(2, .addr (.mem 2) []), (4, .v (.slice 26 (.agg (.arr 4 (.int .u64)))) .ro x4), (7, .addr (.mem 7) []), (8, .v (.map (.agg (.arr 4 (.int .u64))) (.int .u8)) (.pr .dd .dd) x8), (27, .v (.int .i64) .ro x27)], scr := [], mems := [(2, ⟨(.agg (.arr 256 (.int .u8))), .ro, m2⟩), (7, ⟨(.agg (.arr 256 (.int .u8))), .ro, m7⟩)] } : ST cx)
noncomputable def u3 (k n3 : Nat) : T3 := fun (x4 : List (List (Int))) (x8 : List ((List (Int)) × (Int))) (x27 : Int) (m2 m7 : List (Int)) => uK (loopL E h k c13 (K28 k) n3) (s3 x4 x8 x27 m2 m7) ()
noncomputable abbrev l3 (k n3 : Nat) : T3 := fun (x4 : List (List (Int))) (x8 : List ((List (Int)) × (Int))) (x27 : Int) (m2 m7 : List (Int)) => cutK (loopL E h k c13 (K28 k) n3) (s3 x4 x8 x27 m2 m7) ()
abbrev s2 : (List (List (Int))) → (List (Int)) → ST cx := fun (x4 : List (List (Int))) (m2 : List (Int)) => ({ vars := [(2, .addr (.mem 2) []), (4, .v (.slice 26 (.agg (.arr 4 (.int .u64)))) .ro x4)], scr := [], mems := [(2, ⟨(.agg (.arr 256 (.int .u8))), .ro, m2⟩)] } : ST cx)
noncomputable def u2 (k : Nat) : T2 := fun (x4 : List (List (Int))) (m2 : List (Int)) => uK (run E h k c2) (s2 x4 m2) (K5 k)
noncomputable abbrev l2 (k : Nat) : T2 := fun (x4 : List (List (Int))) (m2 : List (Int)) => cutK (run E h k c2) (s2 x4 m2) (K5 k)
abbrev s1 : (List (List (Int))) → (List (List (Int))) → Int → Int → (List (Int)) → ST cx := fun (x4 x16 : List (List (Int))) (x17 x18 : Int) (m2 : List (Int)) => ({ vars := [(2, .addr (.mem 2) []), (4, .v (.slice 26 (.agg (.arr 4 (.int .u64)))) .ro x4), (16, .v (.slice 26 (.agg (.arr 4 (.int .u64)))) .ro x16), (17, .v (.int .i64) .ro x17), (18, .v (.int .i64) .ro x18)], scr := [], mems := [(2, ⟨(.agg (.arr 256 (.int .u8))), .ro, m2⟩)] } : ST cx)
noncomputable def u1 (k n1 : Nat) : T1 := fun (x4 x16 : List (List (Int))) (x17 x18 : Int) (m2 : List (Int)) => uK (loopL E h k c4 (K9 k) n1) (s1 x4 x16 x17 x18 m2) ()
noncomputable abbrev l1 (k n1 : Nat) : T1 := fun (x4 x16 : List (List (Int))) (x17 x18 : Int) (m2 : List (Int)) => cutK (loopL E h k c4 (K9 k) n1) (s1 x4 x16 x17 x18 m2) ()
noncomputable def u0 (k : Nat) : T0 := fun (x0 : List (List (Int))) => runOf (S := cx) E h k Tryd.f14 [.val (.slice 26 (.agg (.arr 4 (.int .u64))))] (.pair (.agg (.arr 256 (.int .u8))) (.int .i64)) .ro (x0, ())
def t6 (f4 : T4) : T6 := fun (x4 : List (List (Int))) (x8 : List ((List (Int)) × (Int))) (x9 x27 : Int) (x30 : List (List (Int))) (x31 x32 : Int) (m2 m7 : List (Int)) => 
  (f4 x4 x8 x9 x27 x30 x31 (w64 (x32 + (1 : Int))) m2 m7)
theorem e6 (k n3 n4 : Nat) : u6 k n3 n4 = t6 (l4 k n3 n4) := by kernel_rfl
theorem g6 (k n3 n4 : Nat) : l6 k n3 n4 = u6 k n3 n4 := funext fun _ => funext fun _ => funext fun _ => funext fun _ => funext fun _ => funext fun _ => funext fun _ => funext fun _ => funext fun _ => cut_u _ _ _
theorem d6 {x4 y4 : T4} (h4 : x4 = y4) : t6 x4 = t6 y4 := by subst h4; rfl
def p6 (k : Nat) (a3 : T3) (a4 : T4) : T6 := t6 a4
theorem o6 (k n3 n4 : Nat) (a3 : T3) (a4 : T4) (h3 : l3 k n3 = a3) (h4 : l4 k n3 n4 = a4) : l6 k n3 n4 = p6 k a3 a4 := (Eq.trans (b := u6 k n3 n4) (g6 k n3 n4) (Eq.trans (b := t6 (l4 k n3 n4)) (e6 k n3 n4) (Eq.trans (b := t6 a4) (d6 h4) (by kernel_rfl))))
def t7 (f6 : T6) : T7 := fun (x4 : List (List (Int))) (x8 : List ((List (Int)) × (Int))) (x9 x27 : Int) (x30 : List (List (Int))) (x31 x32 : Int) (m2 m7 m11 : List (Int)) => 
  (withinR x9 256 fun q6 => (f6 x4 x8 x9 x27 x30 x31 x32 m2 (List.set m7 q6 (Option.getD (findM (fun (a b : List (Int)) => (decide (a = b))) m11 x8) (0 : Int)))))
theorem e7 (k n3 n4 : Nat) : u7 k n3 n4 = t7 (l6 k n3 n4) := by kernel_rfl
theorem g7 (k n3 n4 : Nat) : l7 k n3 n4 = u7 k n3 n4 := funext fun _ => funext fun _ => funext fun _ => funext fun _ => funext fun _ => funext fun _ => funext fun _ => funext fun _ => funext fun _ => funext fun _ => cut_u _ _ _
theorem d7 {x6 y6 : T6} (h6 : x6 = y6) : t7 x6 = t7 y6 := by subst h6; rfl
def p7 (k : Nat) (a3 : T3) (a4 : T4) : T7 := t7 (p6 k a3 a4)
theorem o7 (k n3 n4 : Nat) (a3 : T3) (a4 : T4) (h3 : l3 k n3 = a3) (h4 : l4 k n3 n4 = a4) : l7 k n3 n4 = p7 k a3 a4 := (Eq.trans (b := u7 k n3 n4) (g7 k n3 n4) (Eq.trans (b := t7 (l6 k n3 n4)) (e7 k n3 n4) (Eq.trans (b := t7 (p6 k a3 a4)) (d7 (o6 k n3 n4 a3 a4 h3 h4)) (by kernel_rfl))))
def t8 (f3 : T3) : T8 := fun (x4 : List (List (Int))) (x8 : List ((List (Int)) × (Int))) (x27 : Int) (m2 m7 : List (Int)) => 
  (f3 x4 x8 (w64 (x27 + (1 : Int))) m2 m7)
theorem e8 (k n3 : Nat) : u8 k n3 = t8 (l3 k n3) := by kernel_rfl
theorem g8 (k n3 : Nat) : l8 k n3 = u8 k n3 := funext fun _ => funext fun _ => funext fun _ => funext fun _ => funext fun _ => cut_u _ _ _
theorem d8 {x3 y3 : T3} (h3 : x3 = y3) : t8 x3 = t8 y3 := by subst h3; rfl
def p8 (k : Nat) (a3 : T3) : T8 := t8 a3
theorem o8 (k n3 : Nat) (a3 : T3) (h3 : l3 k n3 = a3) : l8 k n3 = p8 k a3 := (Eq.trans (b := u8 k n3) (g8 k n3) (Eq.trans (b := t8 (l3 k n3)) (e8 k n3) (Eq.trans (b := t8 a3) (d8 h3) (by kernel_rfl))))
def t4 (f6 : T6) (f7 : T7) (f8 : T8) : T4 := fun (x4 : List (List (Int))) (x8 : List ((List (Int)) × (Int))) (x9 x27 : Int) (x30 : List (List (Int))) (x31 x32 : Int) (m2 m7 : List (Int)) => 
  (iteB (decide (x32 < x31)) (withinR x32 (List.length x30) fun q4 => (bindR (s_bytesets_Has ((List.getD x30 q4 (List.replicate 4 (0 : Int))), ((w8 (x9)), ()))) fun r5 => (iteB (notB r5.1) (f6 x4 x8 x9 x27 x30 x31 x32 m2 m7) (iteB (notB (Option.isSome (findM (fun (a b : List (Int)) => (decide (a = b))) (List.getD x30 q4 (List.replicate 4 (0 : Int))) x8))) (f7 x4 (putM (fun (a b : List (Int)) => (decide (a = b))) (List.getD x30 q4 (List.replicate 4 (0 : Int))) (w8 (((List.length x8 : Nat) : Int))) x8) x9 x27 x30 x31 x32 m2 m7 (List.getD x30 q4 (List.replicate 4 (0 : Int)))) (f7 x4 x8 x9 x27 x30 x31 x32 m2 m7 (List.getD x30 q4 (List.replicate 4 (0 : Int)))))))) (f8 x4 x8 x27 m2 m7))
theorem e4 (k n3 n4 : Nat) : u4 k n3 (n4 + 1) = t4 (l6 k n3 n4) (l7 k n3 n4) (l8 k n3) := by kernel_rfl
theorem g4 (k n3 n4 : Nat) : l4 k n3 (n4 + 1) = u4 k n3 (n4 + 1) := funext fun _ => funext fun _ => funext fun _ => funext fun _ => funext fun _ => funext fun _ => funext fun _ => funext fun _ => funext fun _ => cut_u _ _ _
theorem d4 {x6 y6 : T6} {x7 y7 : T7} {x8 y8 : T8} (h6 : x6 = y6) (h7 : x7 = y7) (h8 : x8 = y8) : t4 x6 x7 x8 = t4 y6 y7 y8 := by subst h6; subst h7; subst h8; rfl
def p4 (k : Nat) (a3 : T3) : Nat → T4
  | 0 => fun _ _ _ _ _ _ _ _ _ => none
  | n4 + 1 => t4 (p6 k a3 (p4 k a3 n4)) (p7 k a3 (p4 k a3 n4)) (p8 k a3)
theorem o4 (k n3 : Nat) (a3 : T3) (h3 : l3 k n3 = a3) : ∀ n4, l4 k n3 n4 = p4 k a3 n4 := by
  intro n4
  induction n4 with
  | zero => kernel_rfl
  | succ n4 ih => exact (Eq.trans (b := u4 k n3 (n4 + 1)) (g4 k n3 n4) (Eq.trans (b := t4 (l6 k n3 n4) (l7 k n3 n4) (l8 k n3)) (e4 k n3 n4) (Eq.trans (b := t4 (p6 k a3 (p4 k a3 n4)) (p7 k a3 (p4 k a3 n4)) (p8 k a3)) (d4 (o6 k n3 n4 a3 (p4 k a3 n4) h3 ih) (o7 k n3 n4 a3 (p4 k a3 n4) h3 ih) (o8 k n3 a3 h3)) (by kernel_rfl))))
def t5 : T5 := fun (x4 : List (List (Int))) (m2 m7 : List (Int)) => 
  (some ((m7, ((List.length x4 : Nat) : Int)), ()))
theorem e5 (k : Nat) : u5 k = t5 := by kernel_rfl
theorem g5 (k : Nat) : l5 k = u5 k := funext fun _ => funext fun _ => funext fun _ => cut_u _ _ _
def p5 (k : Nat) : T5 := t5
theorem o5 (k : Nat) : l5 k = p5 k := (Eq.trans (b := u5 k) (g5 k) (Eq.trans (b := t5) (e5 k) (by kernel_rfl)))
def t3 (f4 : T4) (f5 : T5) : T3 := fun (x4 : List (List (Int))) (x8 : List ((List (Int)) × (Int))) (x27 : Int) (m2 m7 : List (Int)) => 
  (iteB (decide (x27 < (256 : Int))) (f4 x4 x8 x27 x27 x4 ((List.length x4 : Nat) : Int) (0 : Int) m2 m7) (f5 x4 m2 m7))
theorem e3 (k n3 : Nat) : u3 k (n3 + 1) = t3 (l4 k n3 k) (l5 k) := by kernel_rfl
theorem g3 (k n3 : Nat) : l3 k (n3 + 1) = u3 k (n3 + 1) := funext fun _ => funext fun _ => funext fun _ => funext fun _ => funext fun _ => cut_u _ _ _
theorem d3 {x4 y4 : T4} {x5 y5 : T5} (h4 : x4 = y4) (h5 : x5 = y5) : t3 x4 x5 = t3 y4 y5 := by subst h4; subst h5; rfl
def p3 (k : Nat) : Nat → T3
  | 0 => fun _ _ _ _ _ => none
  | n3 + 1 => t3 (p4 k (p3 k n3) k) (p5 k)
theorem o3 (k : Nat) : ∀ n3, l3 k n3 = p3 k n3 := by
  intro n3
  induction n3 with
  | zero => kernel_rfl
  | succ n3 ih => exact (Eq.trans (b := u3 k (n3 + 1)) (g3 k n3) (Eq.trans (b := t3 (l4 k n3 k) (l5 k)) (e3 k n3) (Eq.trans (b := t3 (p4 k (p3 k n3) k) (p5 k)) (d3 (o4 k n3 (p3 k n3) ih k) (o5 k)) (by kernel_rfl))))
def t2 (f3 : T3) : T2 := fun (x4 : List (List (Int))) (m2 : List (Int)) => 
  (f3 x4 ([] : List ((List (Int)) × (Int))) (0 : Int) m2 (List.replicate 256 (0 : Int)))
theorem e2 (k : Nat) : u2 k = t2 (l3 k k) := by kernel_rfl
theorem g2 (k : Nat) : l2 k = u2 k := funext fun _ => funext fun _ => cut_u _ _ _
theorem d2 {x3 y3 : T3} (h3 : x3 = y3) : t2 x3 = t2 y3 := by subst h3; rfl
def p2 (k : Nat) : T2 := t2 (p3 k k)
theorem o2 (k : Nat) : l2 k = p2 k := (Eq.trans (b := u2 k) (g2 k) (Eq.trans (b := t2 (l3 k k)) (e2 k) (Eq.trans (b := t2 (p3 k k)) (d2 (o3 k k)) (by kernel_rfl))))
def t1 (f1 : T1) (f2 : T2) : T1 := fun (x4 x16 : List (List (Int))) (x17 x18 : Int) (m2 : List (Int)) => 
  (iteB (decide (x18 < x17)) (withinR x18 (List.length x16) fun q2 => (bindR (s_bytesets_split (x4, ((List.getD x16 q2 (List.replicate 4 (0 : Int))), ()))) fun r3 => (f1 r3.1 x16 x17 (w64 (x18 + (1 : Int))) m2))) (f2 x4 m2))
theorem e1 (k n1 : Nat) : u1 k (n1 + 1) = t1 (l1 k n1) (l2 k) := by kernel_rfl
theorem g1 (k n1 : Nat) : l1 k (n1 + 1) = u1 k (n1 + 1) := funext fun _ => funext fun _ => funext fun _ => funext fun _ => funext fun _ => cut_u _ _ _
theorem d1 {x1 y1 : T1} {x2 y2 : T2} (h1 : x1 = y1) (h2 : x2 = y2) : t1 x1 x2 = t1 y1 y2 := by subst h1; subst h2; rfl
def p1 (k : Nat) : Nat → T1
  | 0 => fun _ _ _ _ _ => none
  | n1 + 1 => t1 (p1 k n1) (p2 k)
theorem o1 (k : Nat) : ∀ n1, l1 k n1 = p1 k n1 := by
  intro n1
  induction n1 with
  | zero => kernel_rfl
  | succ n1 ih => exact (Eq.trans (b := u1 k (n1 + 1)) (g1 k n1) (Eq.trans (b := t1 (l1 k n1) (l2 k)) (e1 k n1) (Eq.trans (b := t1 (p1 k n1) (p2 k)) (d1 ih (o2 k)) (by kernel_rfl))))
def t0 (f1 : T1) : T0 := fun (x0 : List (List (Int))) => 
  (bindR (s_bytesets_All ()) fun r1 => (f1 ([r1.1] : List (List (Int))) x0 ((List.length x0 : Nat) : Int) (0 : Int) (List.replicate 256 (0 : Int))))
theorem e0 (k : Nat) : u0 k = t0 (l1 k k) := by kernel_rfl
theorem d0 {x1 y1 : T1} (h1 : x1 = y1) : t0 x1 = t0 y1 := by subst h1; rfl
def p0 (k : Nat) : T0 := t0 (p1 k k)
theorem o0 (k : Nat) : u0 k = p0 k := (Eq.trans (b := t0 (l1 k k)) (e0 k) (Eq.trans (b := t0 (p1 k k)) (d0 (o1 k k)) (by kernel_rfl)))
end bytesets_Classes
def s_bytesets_Classes (a : (List (List (Int))) × (Unit)) : Option (((List (Int)) × (Int)) × (Unit)) := bytesets_Classes.p0 (fuel) a.1
noncomputable def F_bytesets_Classes : FSpec cx.toNm := { ps := [.val (.slice 26 (.agg (.arr 4 (.int .u64))))], nres := 2, rt := (.pair (.agg (.arr 256 (.int .u8))) (.int .i64)), rm := .ro, f := s_bytesets_Classes }
theorem w_bytesets_Classes (a : (List (List (Int))) × (Unit)) : runOf (S := cx) bytesets_Classes.E bytesets_Classes.h (fuel) Tryd.f14 F_bytesets_Classes.ps F_bytesets_Classes.rt F_bytesets_Classes.rm a = F_bytesets_Classes.f a := Eq.trans (b := bytesets_Classes.u0 (fuel) a.1) (by kernel_rfl) (Eq.trans (b := bytesets_Classes.p0 (fuel) a.1) (congrFun (bytesets_Classes.o0 (fuel)) a.1) (by kernel_rfl))
theorem ok_bytesets_Classes : FnOk Tryd.prog F_bytesets_Classes 14 := fn_of (hn := bytesets_Classes.h) (E := bytesets_Classes.E) cxOk (tysT _) (fs_cons ok_bytesets_Has (fs_cons ok_bytesets_All (fs_cons ok_bytesets_split fs_nil))) follows Tryd.func14 (by kernel_rfl) (fun a r h => ⟨fuel, Eq.trans (w_bytesets_Classes a) h⟩)
namespace law05_alive
noncomputable def E : Env cx := { tys := tys, fs := fsOf [(5, F_bytesets_Of), (6, F_bytesets_Range), (11, F_bytesets_Len), (14, F_bytesets_Classes), (15, F_bytesets_Not)] }
abbrev R := Option ((Bool) × (Unit))
abbrev C := Exit → ST cx → R
noncomputable def b : Code := bodyC Tryd.f4
noncomputable def h : Hint := { vs := [0, 1, 2, 3], nil := [], cuts := [], ret := ([0], [1, 2]), ords := [] }
noncomputable def K0 : C := fin (S := cx) E Tryd.f4.results.toList .bool .ro [] []
noncomputable def c0 : Code := subC b [1]
noncomputable def K1 (k : Nat) : C := outD h c0 K0
noncomputable def K2 (k : Nat) : C := seqC E h k c0 K0
noncomputable def c1 : Code := subC b [1, 1]
noncomputable def K3 (k : Nat) : C := outD h c1 (K1 k)
noncomputable def K4 (k : Nat) : C := seqC E h k c1 (K1 k)
noncomputable def c2 : Code := subC b [1, 1, 1]
noncomputable def K5 (k : Nat) : C := outD h c2 (K3 k)
noncomputable def K6 (k : Nat) : C := seqC E h k c2 (K3 k)
noncomputable def c3 : Code := subC b [1, 1, 1, 1]
noncomputable def K7 (k : Nat) : C := outD h c3 (K5 k)
noncomputable def K8 (k : Nat) : C := seqC E h k c3 (K5 k)
abbrev T0 := R
noncomputable def u0 (k : Nat) : T0 := runOf (S := cx) E h k Tryd.f4 [] .bool .ro (())
def t0 : T0 := 
  (bindR (s_bytesets_Of (([(97 : Int), (99 : Int)] : List (Int)), ())) fun r1 => (bindR (s_bytesets_Range ((97 : Int), ((99 : Int), ()))) fun r2 => (bindR (s_bytesets_Of (([(98 : Int)] : List (Int)), ())) fun r3 => (bindR (s_bytesets_Classes (([r2.1, r3.1] : List (List (Int))), ())) fun r4 => (bindR (s_bytesets_Len (r1.1, ())) fun r5 => (iteB (decide (r5.1 = (2 : Int))) (bindR (s_bytesets_Not (r1.1, ())) fun r6 => (bindR (s_bytesets_Len (r6.1, ())) fun r7 => (iteB (decide (r7.1 = (254 : Int))) (withinR (97 : Int) 256 fun q8 => (iteB (decide ((List.getD r4.1.1 q8 (0 : Int)) = (1 : Int))) (withinR (98 : Int) 256 fun q9 => (iteB (decide ((List.getD r4.1.1 q9 (0 : Int)) = (2 : Int))) (withinR (99 : Int) 256 fun q10 => (iteB (decide ((List.getD r4.1.1 q10 (0 : Int)) = (1 : Int))) (withinR (100 : Int) 256 fun q11 => (iteB (decide ((List.getD r4.1.1 q11 (0 : Int)) = (0 : Int))) (some ((decide (r4.1.2 = (3 : Int))), ())) (some (false, ())))) (some (false, ())))) (some (false, ())))) (some (false, ())))) (some (false, ()))))) (some (false, ()))))))))
theorem e0 (k : Nat) : u0 k = t0 := by kernel_rfl
def p0 (k : Nat) : T0 := t0
theorem o0 (k : Nat) : u0 k = p0 k := (Eq.trans (b := t0) (e0 k) (by kernel_rfl))
end law05_alive
def s_law05_alive (a : Unit) : Option ((Bool) × (Unit)) := law05_alive.p0 (fuel)
noncomputable def F_law05_alive : FSpec cx.toNm := { ps := [], nres := 1, rt := .bool, rm := .ro, f := s_law05_alive }
theorem w_law05_alive (a : Unit) : runOf (S := cx) law05_alive.E law05_alive.h (fuel) Tryd.f4 F_law05_alive.ps F_law05_alive.rt F_law05_alive.rm a = F_law05_alive.f a := Eq.trans (b := law05_alive.u0 (fuel)) (by kernel_rfl) (Eq.trans (b := law05_alive.p0 (fuel)) (law05_alive.o0 (fuel)) (by kernel_rfl))
theorem ok_law05_alive : FnOk Tryd.prog F_law05_alive 4 := fn_of (hn := law05_alive.h) (E := law05_alive.E) cxOk (tysT _) (fs_cons ok_bytesets_Of (fs_cons ok_bytesets_Range (fs_cons ok_bytesets_Len (fs_cons ok_bytesets_Classes (fs_cons ok_bytesets_Not fs_nil))))) follows Tryd.func4 (by kernel_rfl) (fun a r h => ⟨fuel, Eq.trans (w_law05_alive a) h⟩)
namespace ref05_Has
noncomputable def E : Env cx := { tys := tys, fs := fsOf [] }
abbrev R := Option ((Bool) × (Unit))
abbrev C := Exit → ST cx → R
noncomputable def b : Code := bodyC Tryd.f19
noncomputable def h : Hint := { vs := [0, 1, 2, 4, 5, 6], nil := [], cuts := [(3, ([1, 5, 6], []), ([5], [])), (6, ([5], []), ([5], []))], ret := ([4], [2]), ords := [] }
noncomputable def K0 : C := fin (S := cx) E Tryd.f19.results.toList .bool .ro [] []
noncomputable def c0 : Code := subC b [1]
noncomputable def K1 (k : Nat) : C := outD h c0 K0
noncomputable def K2 (k : Nat) : C := seqC E h k c0 K0
noncomputable def c1 : Code := subC b [1, 1]
noncomputable def K3 (k : Nat) : C := outD h c1 (K1 k)
noncomputable def K4 (k : Nat) : C := seqC E h k c1 (K1 k)
noncomputable def c2 : Code := subC b [1, 1, 1]
noncomputable def K5 (k : Nat) : C := outD h c2 (K3 k)
noncomputable def K6 (k : Nat) : C := seqC E h k c2 (K3 k)
noncomputable def c3 : Code := subC b [1, 1, 0, 1]
noncomputable def K7 (k : Nat) : C := outD h c3 (K6 k)
noncomputable def K8 (k : Nat) : C := seqC E h k c3 (K6 k)
noncomputable def K9 (k : Nat) : C := blockK 0 (K7 k)
noncomputable def c4 : Code := subC b [1, 1, 0, 1, 0, 0]
noncomputable def K10 (k n1 : Nat) : C := loopD E h k c4 (K9 k) n1
noncomputable def c5 : Code := subC b [1, 1, 0, 1, 0, 0, 1]
noncomputable def K11 (k n1 : Nat) : C := outD h c5 (K10 k n1)
noncomputable def K12 (k n1 : Nat) : C := seqC E h k c5 (K10 k n1)
noncomputable def c6 : Code := subC b [1, 1, 0, 1, 0, 0, 0, 1]
noncomputable def K13 (k n1 : Nat) : C := outD h c6 (K12 k n1)
noncomputable def K14 (k n1 : Nat) : C := seqC E h k c6 (K12 k n1)
noncomputable def c7 : Code := subC b [1, 1, 0, 1, 0, 0, 1, 1]
noncomputable def K15 (k n1 : Nat) : C := outD h c7 (K11 k n1)
noncomputable def K16 (k n1 : Nat) : C := seqC E h k c7 (K11 k n1)
noncomputable def K17 (k n1 : Nat) : C := blockK 1 (K16 k n1)
noncomputable def c8 : Code := subC b [1, 1, 1, 1]
noncomputable def K18 (k : Nat) : C := outD h c8 (K5 k)
noncomputable def K19 (k : Nat) : C := seqC E h k c8 (K5 k)
abbrev T2 := Int → R
abbrev T1 := Int → Int → Int → R
abbrev T0 := (List (Int)) → Int → R
abbrev s2 : Int → ST cx := fun (x5 : Int) => ({ vars := [(5, .v (.int .u64) .ro x5)], scr := [], mems := [] } : ST cx)
noncomputable def u2 (k : Nat) : T2 := fun (x5 : Int) => uK (run E h k c2) (s2 x5) (K5 k)
noncomputable abbrev l2 (k : Nat) : T2 := fun (x5 : Int) => cutK (run E h k c2) (s2 x5) (K5 k)
abbrev s1 : Int → Int → Int → ST cx := fun (x1 x5 x6 : Int) => ({ vars := [(1, .v (.int .u8) .ro x1), (5, .v (.int .u64) .ro x5), (6, .v (.int .i64) .ro x6)], scr := [], mems := [] } : ST cx)
noncomputable def u1 (k n1 : Nat) : T1 := fun (x1 x5 x6 : Int) => uK (loopL E h k c4 (K9 k) n1) (s1 x1 x5 x6) ()
noncomputable abbrev l1 (k n1 : Nat) : T1 := fun (x1 x5 x6 : Int) => cutK (loopL E h k c4 (K9 k) n1) (s1 x1 x5 x6) ()
noncomputable def u0 (k : Nat) : T0 := fun (x0 : List (Int)) (x1 : Int) => runOf (S := cx) E h k Tryd.f19 [.val (.agg (.arr 4 (.int .u64))), .val (.int .u8)] .bool .ro (x0, x1, ())
def t2 : T2 := fun (x5 : Int) => 
  (some ((decide ((Int.tmod x5 (2 : Int)) = (1 : Int))), ()))
theorem e2 (k : Nat) : u2 k = t2 := by kernel_rfl
theorem g2 (k : Nat) : l2 k = u2 k := funext fun _ => cut_u _ _ _
def p2 (k : Nat) : T2 := t2
theorem o2 (k : Nat) : l2 k = p2 k := (Eq.trans (b := u2 k) (g2 k) (Eq.trans (b := t2) (e2 k) (by kernel_rfl)))
def t1 (f1 : T1) (f2 : T2) : T1 := fun (x1 x5 x6 : Int) => 
  (iteB (decide (x6 < (Int.tmod (w64 (x1)) (64 : Int)))) (f1 x1 (IntKind.wrap .u64 (Int.tdiv x5 (2 : Int))) (w64 (x6 + (1 : Int)))) (f2 x5))
theorem e1 (k n1 : Nat) : u1 k (n1 + 1) = t1 (l1 k n1) (l2 k) := by kernel_rfl
theorem g1 (k n1 : Nat) : l1 k (n1 + 1) = u1 k (n1 + 1) := funext fun _ => funext fun _ => funext fun _ => cut_u _ _ _
theorem d1 {x1 y1 : T1} {x2 y2 : T2} (h1 : x1 = y1) (h2 : x2 = y2) : t1 x1 x2 = t1 y1 y2 := by subst h1; subst h2; rfl
def p1 (k : Nat) : Nat → T1
  | 0 => fun _ _ _ => none
  | n1 + 1 => t1 (p1 k n1) (p2 k)
theorem o1 (k : Nat) : ∀ n1, l1 k n1 = p1 k n1 := by
  intro n1
  induction n1 with
  | zero => kernel_rfl
  | succ n1 ih => exact (Eq.trans (b := u1 k (n1 + 1)) (g1 k n1) (Eq.trans (b := t1 (l1 k n1) (l2 k)) (e1 k n1) (Eq.trans (b := t1 (p1 k n1) (p2 k)) (d1 ih (o2 k)) (by kernel_rfl))))
def t0 (f1 : T1) : T0 := fun (x0 : List (Int)) (x1 : Int) => 
  (withinR (w64 (Int.tdiv (w64 (x1)) (64 : Int))) 4 fun q1 => (f1 x1 (List.getD x0 q1 (0 : Int)) (0 : Int)))
theorem e0 (k : Nat) : u0 k = t0 (l1 k k) := by kernel_rfl
theorem d0 {x1 y1 : T1} (h1 : x1 = y1) : t0 x1 = t0 y1 := by subst h1; rfl
def p0 (k : Nat) : T0 := t0 (p1 k k)
theorem o0 (k : Nat) : u0 k = p0 k := (Eq.trans (b := t0 (l1 k k)) (e0 k) (Eq.trans (b := t0 (p1 k k)) (d0 (o1 k k)) (by kernel_rfl)))
end ref05_Has
def s_ref05_Has (a : (List (Int)) × ((Int) × (Unit))) : Option ((Bool) × (Unit)) := ref05_Has.p0 (fuel) a.1 a.2.1
noncomputable def F_ref05_Has : FSpec cx.toNm := { ps := [.val (.agg (.arr 4 (.int .u64))), .val (.int .u8)], nres := 1, rt := .bool, rm := .ro, f := s_ref05_Has }
theorem w_ref05_Has (a : (List (Int)) × ((Int) × (Unit))) : runOf (S := cx) ref05_Has.E ref05_Has.h (fuel) Tryd.f19 F_ref05_Has.ps F_ref05_Has.rt F_ref05_Has.rm a = F_ref05_Has.f a := Eq.trans (b := ref05_Has.u0 (fuel) a.1 a.2.1) (by kernel_rfl) (Eq.trans (b := ref05_Has.p0 (fuel) a.1 a.2.1) (congrFun (congrFun (ref05_Has.o0 (fuel)) a.1) a.2.1) (by kernel_rfl))
theorem ok_ref05_Has : FnOk Tryd.prog F_ref05_Has 19 := fn_of (hn := ref05_Has.h) (E := ref05_Has.E) cxOk (tysT _) fs_nil follows Tryd.func19 (by kernel_rfl) (fun a r h => ⟨fuel, Eq.trans (w_ref05_Has a) h⟩)
namespace ref05_Put
noncomputable def E : Env cx := { tys := tys, fs := fsOf [(19, F_ref05_Has)] }
abbrev R := Option ((List (Int)) × (Unit))
abbrev C := Exit → ST cx → R
noncomputable def b : Code := bodyC Tryd.f7
noncomputable def h : Hint := { vs := [0, 1, 2, 4, 5, 6], nil := [(0, (.own .ro))], cuts := [(5, ([1, 2, 4, 5, 6], [2, 4]), ([1, 2, 4, 5], [2, 4])), (8, ([1, 2, 4, 5], [2, 4]), ([1, 2, 4, 5], [2, 4]))], ret := ([4], [2, 4]), ords := [] }
noncomputable def K0 : C := fin (S := cx) E Tryd.f7.results.toList (.agg (.arr 4 (.int .u64))) .ro [] []
noncomputable def c0 : Code := subC b [1]
noncomputable def K1 (k : Nat) : C := outD h c0 K0
noncomputable def K2 (k : Nat) : C := seqC E h k c0 K0
noncomputable def c1 : Code := subC b [1, 1]
noncomputable def K3 (k : Nat) : C := outD h c1 (K1 k)
noncomputable def K4 (k : Nat) : C := seqC E h k c1 (K1 k)
noncomputable def c2 : Code := subC b [1, 0, 1]
noncomputable def K5 (k : Nat) : C := outD h c2 (K4 k)
noncomputable def K6 (k : Nat) : C := seqC E h k c2 (K4 k)
noncomputable def c3 : Code := subC b [1, 0, 1, 0, 1]
noncomputable def K7 (k : Nat) : C := outD h c3 (K5 k)
noncomputable def K8 (k : Nat) : C := seqC E h k c3 (K5 k)
noncomputable def c4 : Code := subC b [1, 1, 1]
noncomputable def K9 (k : Nat) : C := outD h c4 (K3 k)
noncomputable def K10 (k : Nat) : C := seqC E h k c4 (K3 k)
noncomputable def c5 : Code := subC b [1, 1, 1, 1]
noncomputable def K11 (k : Nat) : C := outD h c5 (K9 k)
noncomputable def K12 (k : Nat) : C := seqC E h k c5 (K9 k)
noncomputable def c6 : Code := subC b [1, 1, 1, 0, 1]
noncomputable def K13 (k : Nat) : C := outD h c6 (K12 k)
noncomputable def K14 (k : Nat) : C := seqC E h k c6 (K12 k)
noncomputable def K15 (k : Nat) : C := blockK 0 (K13 k)
noncomputable def c7 : Code := subC b [1, 1, 1, 0, 1, 0, 0]
noncomputable def K16 (k n1 : Nat) : C := loopD E h k c7 (K15 k) n1
noncomputable def c8 : Code := subC b [1, 1, 1, 0, 1, 0, 0, 1]
noncomputable def K17 (k n1 : Nat) : C := outD h c8 (K16 k n1)
noncomputable def K18 (k n1 : Nat) : C := seqC E h k c8 (K16 k n1)
noncomputable def c9 : Code := subC b [1, 1, 1, 0, 1, 0, 0, 0, 1]
noncomputable def K19 (k n1 : Nat) : C := outD h c9 (K18 k n1)
noncomputable def K20 (k n1 : Nat) : C := seqC E h k c9 (K18 k n1)
noncomputable def c10 : Code := subC b [1, 1, 1, 0, 1, 0, 0, 1, 1]
noncomputable def K21 (k n1 : Nat) : C := outD h c10 (K17 k n1)
noncomputable def K22 (k n1 : Nat) : C := seqC E h k c10 (K17 k n1)
noncomputable def K23 (k n1 : Nat) : C := blockK 1 (K22 k n1)
noncomputable def c11 : Code := subC b [1, 1, 1, 1, 1]
noncomputable def K24 (k : Nat) : C := outD h c11 (K11 k)
noncomputable def K25 (k : Nat) : C := seqC E h k c11 (K11 k)
noncomputable def c12 : Code := subC b [1, 1, 1, 1, 1, 1]
noncomputable def K26 (k : Nat) : C := outD h c12 (K24 k)
noncomputable def K27 (k : Nat) : C := seqC E h k c12 (K24 k)
abbrev T2 := Int → Int → (List (Int)) → (List (Int)) → R
abbrev T1 := Int → Int → Int → (List (Int)) → (List (Int)) → R
abbrev T0 := (List (Int)) → Int → R
abbrev s2 : Int → Int → (List (Int)) → (List (Int)) → ST cx := fun (x1 x5 : Int) (m2 m4 : List (Int)) => ({ vars := [(1, .v (.int .u8) .ro x1), (2, .addr (.mem 2) []), (4, .addr (.mem 4) []), (5, .v (.int .u64) .ro x5)], scr := [], mems := [(2, ⟨(.agg (.arr 4 (.int .u64))), .ro, m2⟩), (4, ⟨(.agg (.arr 4 (.int .u64))), .ro, m4⟩)] } : ST cx)
noncomputable def u2 (k : Nat) : T2 := fun (x1 x5 : Int) (m2 m4 : List (Int)) => uK (run E h k c5) (s2 x1 x5 m2 m4) (K11 k)
noncomputable abbrev l2 (k : Nat) : T2 := fun (x1 x5 : Int) (m2 m4 : List (Int)) => cutK (run E h k c5) (s2 x1 x5 m2 m4) (K11 k)
abbrev s1 : Int → Int → Int → (List (Int)) → (List (Int)) → ST cx := fun (x1 x5 x6 : Int) (m2 m4 : List (Int)) => ({ vars := [(1, .v (.int .u8) .ro x1), (2, .addr (.mem 2) []), (4, .addr (.mem 4) []), (5, .v (.int .u64) .ro x5), (6, .v (.int .i64) .ro x6)], scr := [], mems := [(2, ⟨(.agg (.arr 4 (.int .u64))), .ro, m2⟩), (4, ⟨(.agg (.arr 4 (.int .u64))), .ro, m4⟩)] } : ST cx)
noncomputable def u1 (k n1 : Nat) : T1 := fun (x1 x5 x6 : Int) (m2 m4 : List (Int)) => uK (loopL E h k c7 (K15 k) n1) (s1 x1 x5 x6 m2 m4) ()
noncomputable abbrev l1 (k n1 : Nat) : T1 := fun (x1 x5 x6 : Int) (m2 m4 : List (Int)) => cutK (loopL E h k c7 (K15 k) n1) (s1 x1 x5 x6 m2 m4) ()
noncomputable def u0 (k : Nat) : T0 := fun (x0 : List (Int)) (x1 : Int) => runOf (S := cx) E h k Tryd.f7 [.val (.agg (.arr 4 (.int .u64))), .val (.int .u8)] (.agg (.arr 4 (.int .u64))) .ro (x0, x1, ())
def t2 : T2 := fun (x1 x5 : Int) (m2 m4 : List (Int)) => 
  (withinR (w64 (Int.tdiv (w64 (x1)) (64 : Int))) 4 fun q2 => (withinR (w64 (Int.tdiv (w64 (x1)) (64 : Int))) 4 fun q3 => (some ((List.set m2 q3 (IntKind.wrap .u64 ((List.getD m2 q2 (0 : Int)) + x5))), ()))))
theorem e2 (k : Nat) : u2 k = t2 := by kernel_rfl
theorem g2 (k : Nat) : l2 k = u2 k := funext fun _ => funext fun _ => funext fun _ => funext fun _ => cut_u _ _ _
def p2 (k : Nat) : T2 := t2
theorem o2 (k : Nat) : l2 k = p2 k := (Eq.trans (b := u2 k) (g2 k) (Eq.trans (b := t2) (e2 k) (by kernel_rfl)))
def t1 (f1 : T1) (f2 : T2) : T1 := fun (x1 x5 x6 : Int) (m2 m4 : List (Int)) => 
  (iteB (decide (x6 < (Int.tmod (w64 (x1)) (64 : Int)))) (f1 x1 (IntKind.wrap .u64 ((2 : Int) * x5)) (w64 (x6 + (1 : Int))) m2 m4) (f2 x1 x5 m2 m4))
theorem e1 (k n1 : Nat) : u1 k (n1 + 1) = t1 (l1 k n1) (l2 k) := by kernel_rfl
theorem g1 (k n1 : Nat) : l1 k (n1 + 1) = u1 k (n1 + 1) := funext fun _ => funext fun _ => funext fun _ => funext fun _ => funext fun _ => cut_u _ _ _
theorem d1 {x1 y1 : T1} {x2 y2 : T2} (h1 : x1 = y1) (h2 : x2 = y2) : t1 x1 x2 = t1 y1 y2 := by subst h1; subst h2; rfl
def p1 (k : Nat) : Nat → T1
  | 0 => fun _ _ _ _ _ => none
  | n1 + 1 => t1 (p1 k n1) (p2 k)
theorem o1 (k : Nat) : ∀ n1, l1 k n1 = p1 k n1 := by
  intro n1
  induction n1 with
  | zero => kernel_rfl
  | succ n1 ih => exact (Eq.trans (b := u1 k (n1 + 1)) (g1 k n1) (Eq.trans (b := t1 (l1 k n1) (l2 k)) (e1 k n1) (Eq.trans (b := t1 (p1 k n1) (p2 k)) (d1 ih (o2 k)) (by kernel_rfl))))
def t0 (f1 : T1) : T0 := fun (x0 : List (Int)) (x1 : Int) => 
  (bindR (s_ref05_Has (x0, (x1, ()))) fun r1 => (iteB r1.1 (some (x0, ())) (f1 x1 (1 : Int) (0 : Int) x0 (List.replicate 4 (0 : Int)))))
theorem e0 (k : Nat) : u0 k = t0 (l1 k k) := by kernel_rfl
theorem d0 {x1 y1 : T1} (h1 : x1 = y1) : t0 x1 = t0 y1 := by subst h1; rfl
def p0 (k : Nat) : T0 := t0 (p1 k k)
theorem o0 (k : Nat) : u0 k = p0 k := (Eq.trans (b := t0 (l1 k k)) (e0 k) (Eq.trans (b := t0 (p1 k k)) (d0 (o1 k k)) (by kernel_rfl)))
end ref05_Put
def s_ref05_Put (a : (List (Int)) × ((Int) × (Unit))) : Option ((List (Int)) × (Unit)) := ref05_Put.p0 (fuel) a.1 a.2.1
noncomputable def F_ref05_Put : FSpec cx.toNm := { ps := [.val (.agg (.arr 4 (.int .u64))), .val (.int .u8)], nres := 1, rt := (.agg (.arr 4 (.int .u64))), rm := .ro, f := s_ref05_Put }
theorem w_ref05_Put (a : (List (Int)) × ((Int) × (Unit))) : runOf (S := cx) ref05_Put.E ref05_Put.h (fuel) Tryd.f7 F_ref05_Put.ps F_ref05_Put.rt F_ref05_Put.rm a = F_ref05_Put.f a := Eq.trans (b := ref05_Put.u0 (fuel) a.1 a.2.1) (by kernel_rfl) (Eq.trans (b := ref05_Put.p0 (fuel) a.1 a.2.1) (congrFun (congrFun (ref05_Put.o0 (fuel)) a.1) a.2.1) (by kernel_rfl))
theorem ok_ref05_Put : FnOk Tryd.prog F_ref05_Put 7 := fn_of (hn := ref05_Put.h) (E := ref05_Put.E) cxOk (tysT _) (fs_cons ok_ref05_Has fs_nil) follows Tryd.func7 (by kernel_rfl) (fun a r h => ⟨fuel, Eq.trans (w_ref05_Put a) h⟩)
namespace bytesets_First
noncomputable def E : Env cx := { tys := tys, fs := fsOf [(20, F_Tz)] }
abbrev R := Option (((Int) × (Bool)) × (Unit))
abbrev C := Exit → ST cx → R
noncomputable def b : Code := bodyC Tryd.f8
noncomputable def h : Hint := { vs := [0, 1, 2, 3, 4, 5, 6, 7], nil := [], cuts := [(2, ([6, 7], []), ([], [])), (7, ([], []), ([], []))], ret := ([2, 3], [1]), ords := [] }
noncomputable def K0 : C := fin (S := cx) E Tryd.f8.results.toList (.pair (.int .u8) .bool) .ro [] []
noncomputable def c0 : Code := subC b [1]
noncomputable def K1 (k : Nat) : C := outD h c0 K0
noncomputable def K2 (k : Nat) : C := seqC E h k c0 K0
noncomputable def c1 : Code := subC b [1, 1]
noncomputable def K3 (k : Nat) : C := outD h c1 (K1 k)
noncomputable def K4 (k : Nat) : C := seqC E h k c1 (K1 k)
noncomputable def c2 : Code := subC b [1, 0, 1]
noncomputable def K5 (k : Nat) : C := outD h c2 (K4 k)
noncomputable def K6 (k : Nat) : C := seqC E h k c2 (K4 k)
noncomputable def K7 (k : Nat) : C := blockK 0 (K5 k)
noncomputable def c3 : Code := subC b [1, 0, 1, 0, 0]
noncomputable def K8 (k n1 : Nat) : C := loopD E h k c3 (K7 k) n1
noncomputable def c4 : Code := subC b [1, 0, 1, 0, 0, 1]
noncomputable def K9 (k n1 : Nat) : C := outD h c4 (K8 k n1)
noncomputable def K10 (k n1 : Nat) : C := seqC E h k c4 (K8 k n1)
noncomputable def c5 : Code := subC b [1, 0, 1, 0, 0, 1, 1]
noncomputable def K11 (k n1 : Nat) : C := outD h c5 (K9 k n1)
noncomputable def K12 (k n1 : Nat) : C := seqC E h k c5 (K9 k n1)
noncomputable def c6 : Code := subC b [1, 0, 1, 0, 0, 1, 1, 1]
noncomputable def K13 (k n1 : Nat) : C := outD h c6 (K11 k n1)
noncomputable def K14 (k n1 : Nat) : C := seqC E h k c6 (K11 k n1)
noncomputable def K15 (k n1 : Nat) : C := blockK 1 (K14 k n1)
noncomputable def c7 : Code := subC b [1, 0, 1, 0, 0, 1, 1, 0, 0, 1]
noncomputable def K16 (k n1 : Nat) : C := outD h c7 (K15 k n1)
noncomputable def K17 (k n1 : Nat) : C := seqC E h k c7 (K15 k n1)
noncomputable def c8 : Code := subC b [1, 0, 1, 0, 0, 1, 1, 0, 0, 1, 1]
noncomputable def K18 (k n1 : Nat) : C := outD h c8 (K16 k n1)
noncomputable def K19 (k n1 : Nat) : C := seqC E h k c8 (K16 k n1)
noncomputable def c9 : Code := subC b [1, 0, 1, 0, 0, 1, 1, 0, 0, 1, 1, 0, 1]
noncomputable def K20 (k n1 : Nat) : C := outD h c9 (K18 k n1)
noncomputable def K21 (k n1 : Nat) : C := seqC E h k c9 (K18 k n1)
noncomputable def c10 : Code := subC b [1, 1, 1]
noncomputable def K22 (k : Nat) : C := outD h c10 (K3 k)
noncomputable def K23 (k : Nat) : C := seqC E h k c10 (K3 k)
abbrev T2 := R
abbrev T1 := (List (Int)) → Int → R
abbrev T0 := (List (Int)) → R
abbrev s2 : ST cx := ({ vars := [], scr := [], mems := [] } : ST cx)
noncomputable def u2 (k : Nat) : T2 := uK (run E h k c1) s2 (K3 k)
noncomputable abbrev l2 (k : Nat) : T2 := cutK (run E h k c1) s2 (K3 k)
abbrev s1 : (List (Int)) → Int → ST cx := fun (x6 : List (Int)) (x7 : Int) => ({ vars := [(6, .v (.agg (.arr 4 (.int .u64))) .ro x6), (7, .v (.int .i64) .ro x7)], scr := [], mems := [] } : ST cx)
noncomputable def u1 (k n1 : Nat) : T1 := fun (x6 : List (Int)) (x7 : Int) => uK (loopL E h k c3 (K7 k) n1) (s1 x6 x7) ()
noncomputable abbrev l1 (k n1 : Nat) : T1 := fun (x6 : List (Int)) (x7 : Int) => cutK (loopL E h k c3 (K7 k) n1) (s1 x6 x7) ()
noncomputable def u0 (k : Nat) : T0 := fun (x0 : List (Int)) => runOf (S := cx) E h k Tryd.f8 [.val (.agg (.arr 4 (.int .u64)))] (.pair (.int .u8) .bool) .ro (x0, ())
def t2 : T2 := 
  (some (((0 : Int), false), ()))
theorem e2 (k : Nat) : u2 k = t2 := by kernel_rfl
theorem g2 (k : Nat) : l2 k = u2 k := cut_u _ _ _
def p2 (k : Nat) : T2 := t2
theorem o2 (k : Nat) : l2 k = p2 k := (Eq.trans (b := u2 k) (g2 k) (Eq.trans (b := t2) (e2 k) (by kernel_rfl)))
def t1 (f1 : T1) (f2 : T2) : T1 := fun (x6 : List (Int)) (x7 : Int) => 
  (iteB (decide (x7 < (4 : Int))) (withinR x7 4 fun q1 => (iteB (!decide ((List.getD x6 q1 (0 : Int)) = (0 : Int))) (bindR (s_Tz ((List.getD x6 q1 (0 : Int)), ())) fun r2 => (some (((w8 ((w64 ((w64 ((64 : Int) * x7)) + r2.1)))), true), ()))) (f1 x6 (w64 (x7 + (1 : Int)))))) f2)
theorem e1 (k n1 : Nat) : u1 k (n1 + 1) = t1 (l1 k n1) (l2 k) := by kernel_rfl
theorem g1 (k n1 : Nat) : l1 k (n1 + 1) = u1 k (n1 + 1) := funext fun _ => funext fun _ => cut_u _ _ _
theorem d1 {x1 y1 : T1} {x2 y2 : T2} (h1 : x1 = y1) (h2 : x2 = y2) : t1 x1 x2 = t1 y1 y2 := by subst h1; subst h2; rfl
def p1 (k : Nat) : Nat → T1
  | 0 => fun _ _ => none
  | n1 + 1 => t1 (p1 k n1) (p2 k)
theorem o1 (k : Nat) : ∀ n1, l1 k n1 = p1 k n1 := by
  intro n1
  induction n1 with
  | zero => kernel_rfl
  | succ n1 ih => exact (Eq.trans (b := u1 k (n1 + 1)) (g1 k n1) (Eq.trans (b := t1 (l1 k n1) (l2 k)) (e1 k n1) (Eq.trans (b := t1 (p1 k n1) (p2 k)) (d1 ih (o2 k)) (by kernel_rfl))))
def t0 (f1 : T1) : T0 := fun (x0 : List (Int)) => 
  (f1 x0 (0 : Int))
theorem e0 (k : Nat) : u0 k = t0 (l1 k k) := by kernel_rfl
theorem d0 {x1 y1 : T1} (h1 : x1 = y1) : t0 x1 = t0 y1 := by subst h1; rfl
def p0 (k : Nat) : T0 := t0 (p1 k k)
theorem o0 (k : Nat) : u0 k = p0 k := (Eq.trans (b := t0 (l1 k k)) (e0 k) (Eq.trans (b := t0 (p1 k k)) (d0 (o1 k k)) (by kernel_rfl)))
end bytesets_First
def s_bytesets_First (a : (List (Int)) × (Unit)) : Option (((Int) × (Bool)) × (Unit)) := bytesets_First.p0 (fuel) a.1
noncomputable def F_bytesets_First : FSpec cx.toNm := { ps := [.val (.agg (.arr 4 (.int .u64)))], nres := 2, rt := (.pair (.int .u8) .bool), rm := .ro, f := s_bytesets_First }
theorem w_bytesets_First (a : (List (Int)) × (Unit)) : runOf (S := cx) bytesets_First.E bytesets_First.h (fuel) Tryd.f8 F_bytesets_First.ps F_bytesets_First.rt F_bytesets_First.rm a = F_bytesets_First.f a := Eq.trans (b := bytesets_First.u0 (fuel) a.1) (by kernel_rfl) (Eq.trans (b := bytesets_First.p0 (fuel) a.1) (congrFun (bytesets_First.o0 (fuel)) a.1) (by kernel_rfl))
theorem ok_bytesets_First : FnOk Tryd.prog F_bytesets_First 8 := fn_of (hn := bytesets_First.h) (E := bytesets_First.E) cxOk (tysT _) (fs_cons ok_Tz fs_nil) follows Tryd.func8 (by kernel_rfl) (fun a r h => ⟨fuel, Eq.trans (w_bytesets_First a) h⟩)
namespace ref05_Bytes
noncomputable def E : Env cx := { tys := tys, fs := fsOf [(19, F_ref05_Has)] }
abbrev R := Option ((List (Int)) × (Unit))
abbrev C := Exit → ST cx → R
noncomputable def b : Code := bodyC Tryd.f9
noncomputable def h : Hint := { vs := [0, 1, 2, 3, 4], nil := [(3, (.own .ro))], cuts := [(3, ([1, 3, 4], [1]), ([3], [])), (4, ([1, 3, 4], [1]), ([1, 3, 4], [1])), (7, ([3], []), ([3], []))], ret := ([2], [1]), ords := [] }
noncomputable def K0 : C := fin (S := cx) E Tryd.f9.results.toList (.slice 5 (.int .u8)) .ro [] []
noncomputable def c0 : Code := subC b [1]
noncomputable def K1 (k : Nat) : C := outD h c0 K0
noncomputable def K2 (k : Nat) : C := seqC E h k c0 K0
noncomputable def c1 : Code := subC b [1, 1]
noncomputable def K3 (k : Nat) : C := outD h c1 (K1 k)
noncomputable def K4 (k : Nat) : C := seqC E h k c1 (K1 k)
noncomputable def c2 : Code := subC b [1, 1, 1]
noncomputable def K5 (k : Nat) : C := outD h c2 (K3 k)
noncomputable def K6 (k : Nat) : C := seqC E h k c2 (K3 k)
noncomputable def c3 : Code := subC b [1, 1, 0, 1]
noncomputable def K7 (k : Nat) : C := outD h c3 (K6 k)
noncomputable def K8 (k : Nat) : C := seqC E h k c3 (K6 k)
noncomputable def K9 (k : Nat) : C := blockK 0 (K7 k)
noncomputable def c4 : Code := subC b [1, 1, 0, 1, 0, 0]
noncomputable def K10 (k n1 : Nat) : C := loopD E h k c4 (K9 k) n1
noncomputable def c5 : Code := subC b [1, 1, 0, 1, 0, 0, 1]
noncomputable def K11 (k n1 : Nat) : C := outD h c5 (K10 k n1)
noncomputable def K12 (k n1 : Nat) : C := seqC E h k c5 (K10 k n1)
noncomputable def c6 : Code := subC b [1, 1, 0, 1, 0, 0, 0, 1]
noncomputable def K13 (k n1 : Nat) : C := outD h c6 (K12 k n1)
noncomputable def K14 (k n1 : Nat) : C := seqC E h k c6 (K12 k n1)
noncomputable def c7 : Code := subC b [1, 1, 0, 1, 0, 0, 1, 1]
noncomputable def K15 (k n1 : Nat) : C := outD h c7 (K11 k n1)
noncomputable def K16 (k n1 : Nat) : C := seqC E h k c7 (K11 k n1)
noncomputable def K17 (k n1 : Nat) : C := blockK 1 (K16 k n1)
noncomputable def c8 : Code := subC b [1, 1, 0, 1, 0, 0, 1, 0, 0, 1]
noncomputable def K18 (k n1 : Nat) : C := outD h c8 (K17 k n1)
noncomputable def K19 (k n1 : Nat) : C := seqC E h k c8 (K17 k n1)
noncomputable def c9 : Code := subC b [1, 1, 1, 1]
noncomputable def K20 (k : Nat) : C := outD h c9 (K5 k)
noncomputable def K21 (k : Nat) : C := seqC E h k c9 (K5 k)
abbrev T2 := (List (Int)) → Int → (List (Int)) → R
abbrev T3 := (List (Int)) → R
abbrev T1 := (List (Int)) → Int → (List (Int)) → R
abbrev T0 := (List (Int)) → R
abbrev s2 : (List (Int)) → Int → (List (Int)) → ST cx := fun (x3 : List (Int)) (x4 : Int) (m1 : List (Int)) => ({ vars := [(1, .addr (.mem 1) []), (3, .v (.slice 5 (.int .u8)) (.own .ro) x3), (4, .v (.int .i64) .ro x4)], scr := [], mems := [(1, ⟨(.agg (.arr 4 (.int .u64))), .ro, m1⟩)] } : ST cx)
noncomputable def u2 (k n1 : Nat) : T2 := fun (x3 : List (Int)) (x4 : Int) (m1 : List (Int)) => uK (run E h k c7) (s2 x3 x4 m1) (K15 k n1)
noncomputable abbrev l2 (k n1 : Nat) : T2 := fun (x3 : List (Int)) (x4 : Int) (m1 : List (Int)) => cutK (run E h k c7) (s2 x3 x4 m1) (K15 k n1)
abbrev s3 : (List (Int)) → ST cx := fun (x3 : List (Int)) => ({ vars := [(3, .v (.slice 5 (.int .u8)) (.own .ro) x3)], scr := [], mems := [] } : ST cx)
noncomputable def u3 (k : Nat) : T3 := fun (x3 : List (Int)) => uK (run E h k c2) (s3 x3) (K5 k)
noncomputable abbrev l3 (k : Nat) : T3 := fun (x3 : List (Int)) => cutK (run E h k c2) (s3 x3) (K5 k)
abbrev s1 : (List (Int)) → Int → (List (Int)) → ST cx := fun (x3 : List (Int)) (x4 : Int) (m1 : List (Int)) => ({ vars := [(1, .addr (.mem 1) []), (3, .v (.slice 5 (.int .u8)) (.own .ro) x3), (4, .v (.int .i64) .ro x4)], scr := [], mems := [(1, ⟨(.agg (.arr 4 (.int .u64))), .ro, m1⟩)] } : ST cx)
noncomputable def u1 (k n1 : Nat) : T1 := fun (x3 : List (Int)) (x4 : Int) (m1 : List (Int)) => uK (loopL E h k c4 (K9 k) n1) (s1 x3 x4 m1) ()
noncomputable abbrev l1 (k n1 : Nat) : T1 := fun (x3 : List (Int)) (x4 : Int) (m1 : List (Int)) => cutK (loopL E h k c4 (K9 k) n1) (s1 x3 x4 m1) ()
noncomputable def u0 (k : Nat) : T0 := fun (x0 : List (Int)) => runOf (S := cx) E h k Tryd.f9 [.val (.agg (.arr 4 (.int .u64)))] (.slice 5 (.int .u8)) .ro (x0, ())
def t2 (f1 : T1) : T2 := fun (x3 : List (Int)) (x4 : Int) (m1 : List (Int)) => 
  (f1 x3 (w64 (x4 + (1 : Int))) m1)
theorem e2 (k n1 : Nat) : u2 k n1 = t2 (l1 k n1) := by kernel_rfl
theorem g2 (k n1 : Nat) : l2 k n1 = u2 k n1 := funext fun _ => funext fun _ => funext fun _ => cut_u _ _ _
theorem d2 {x1 y1 : T1} (h1 : x1 = y1) : t2 x1 = t2 y1 := by subst h1; rfl
def p2 (k : Nat) (a1 : T1) : T2 := t2 a1
theorem o2 (k n1 : Nat) (a1 : T1) (h1 : l1 k n1 = a1) : l2 k n1 = p2 k a1 := (Eq.trans (b := u2 k n1) (g2 k n1) (Eq.trans (b := t2 (l1 k n1)) (e2 k n1) (Eq.trans (b := t2 a1) (d2 h1) (by kernel_rfl))))
def t3 : T3 := fun (x3 : List (Int)) => 
  (some (x3, ()))
theorem e3 (k : Nat) : u3 k = t3 := by kernel_rfl
theorem g3 (k : Nat) : l3 k = u3 k := funext fun _ => cut_u _ _ _
def p3 (k : Nat) : T3 := t3
theorem o3 (k : Nat) : l3 k = p3 k := (Eq.trans (b := u3 k) (g3 k) (Eq.trans (b := t3) (e3 k) (by kernel_rfl)))
def t1 (f2 : T2) (f3 : T3) : T1 := fun (x3 : List (Int)) (x4 : Int) (m1 : List (Int)) => 
  (iteB (decide (x4 < (256 : Int))) (bindR (s_ref05_Has (m1, ((w8 (x4)), ()))) fun r1 => (iteB r1.1 (mustR (room x3 ([(w8 (x4))] : List (Int))) (f2 (x3 ++ ([(w8 (x4))] : List (Int))) x4 m1)) (f2 x3 x4 m1))) (f3 x3))
theorem e1 (k n1 : Nat) : u1 k (n1 + 1) = t1 (l2 k n1) (l3 k) := by kernel_rfl
theorem g1 (k n1 : Nat) : l1 k (n1 + 1) = u1 k (n1 + 1) := funext fun _ => funext fun _ => funext fun _ => cut_u _ _ _
theorem d1 {x2 y2 : T2} {x3 y3 : T3} (h2 : x2 = y2) (h3 : x3 = y3) : t1 x2 x3 = t1 y2 y3 := by subst h2; subst h3; rfl
def p1 (k : Nat) : Nat → T1
  | 0 => fun _ _ _ => none
  | n1 + 1 => t1 (p2 k (p1 k n1)) (p3 k)
theorem o1 (k : Nat) : ∀ n1, l1 k n1 = p1 k n1 := by
  intro n1
  induction n1 with
  | zero => kernel_rfl
  | succ n1 ih => exact (Eq.trans (b := u1 k (n1 + 1)) (g1 k n1) (Eq.trans (b := t1 (l2 k n1) (l3 k)) (e1 k n1) (Eq.trans (b := t1 (p2 k (p1 k n1)) (p3 k)) (d1 (o2 k n1 (p1 k n1) ih) (o3 k)) (by kernel_rfl))))
def t0 (f1 : T1) : T0 := fun (x0 : List (Int)) => 
  (f1 ([] : List (Int)) (0 : Int) x0)
theorem e0 (k : Nat) : u0 k = t0 (l1 k k) := by kernel_rfl
theorem d0 {x1 y1 : T1} (h1 : x1 = y1) : t0 x1 = t0 y1 := by subst h1; rfl
def p0 (k : Nat) : T0 := t0 (p1 k k)
theorem o0 (k : Nat) : u0 k = p0 k := (Eq.trans (b := t0 (l1 k k)) (e0 k) (Eq.trans (b := t0 (p1 k k)) (d0 (o1 k k)) (by kernel_rfl)))
end ref05_Bytes
def s_ref05_Bytes (a : (List (Int)) × (Unit)) : Option ((List (Int)) × (Unit)) := ref05_Bytes.p0 (fuel) a.1
noncomputable def F_ref05_Bytes : FSpec cx.toNm := { ps := [.val (.agg (.arr 4 (.int .u64)))], nres := 1, rt := (.slice 5 (.int .u8)), rm := .ro, f := s_ref05_Bytes }
theorem w_ref05_Bytes (a : (List (Int)) × (Unit)) : runOf (S := cx) ref05_Bytes.E ref05_Bytes.h (fuel) Tryd.f9 F_ref05_Bytes.ps F_ref05_Bytes.rt F_ref05_Bytes.rm a = F_ref05_Bytes.f a := Eq.trans (b := ref05_Bytes.u0 (fuel) a.1) (by kernel_rfl) (Eq.trans (b := ref05_Bytes.p0 (fuel) a.1) (congrFun (ref05_Bytes.o0 (fuel)) a.1) (by kernel_rfl))
theorem ok_ref05_Bytes : FnOk Tryd.prog F_ref05_Bytes 9 := fn_of (hn := ref05_Bytes.h) (E := ref05_Bytes.E) cxOk (tysT _) (fs_cons ok_ref05_Has fs_nil) follows Tryd.func9 (by kernel_rfl) (fun a r h => ⟨fuel, Eq.trans (w_ref05_Bytes a) h⟩)
namespace bytesets_Bytes
noncomputable def E : Env cx := { tys := tys, fs := fsOf [(12, F_bytesets_Has)] }
abbrev R := Option ((List (Int)) × (Unit))
abbrev C := Exit → ST cx → R
noncomputable def b : Code := bodyC Tryd.f10
noncomputable def h : Hint := { vs := [0, 1, 2, 3, 4, 5], nil := [(3, (.own .ro))], cuts := [(3, ([1, 3, 5], [1]), ([3], [])), (7, ([1, 3, 5], [1]), ([1, 3, 5], [1])), (8, ([3], []), ([3], []))], ret := ([2], [1]), ords := [] }
noncomputable def K0 : C := fin (S := cx) E Tryd.f10.results.toList (.slice 5 (.int .u8)) .ro [] []
noncomputable def c0 : Code := subC b [1]
noncomputable def K1 (k : Nat) : C := outD h c0 K0
noncomputable def K2 (k : Nat) : C := seqC E h k c0 K0
noncomputable def c1 : Code := subC b [1, 1]
noncomputable def K3 (k : Nat) : C := outD h c1 (K1 k)
noncomputable def K4 (k : Nat) : C := seqC E h k c1 (K1 k)
noncomputable def c2 : Code := subC b [1, 1, 1]
noncomputable def K5 (k : Nat) : C := outD h c2 (K3 k)
noncomputable def K6 (k : Nat) : C := seqC E h k c2 (K3 k)
noncomputable def c3 : Code := subC b [1, 1, 0, 1]
noncomputable def K7 (k : Nat) : C := outD h c3 (K6 k)
noncomputable def K8 (k : Nat) : C := seqC E h k c3 (K6 k)
noncomputable def K9 (k : Nat) : C := blockK 0 (K7 k)
noncomputable def c4 : Code := subC b [1, 1, 0, 1, 0, 0]
noncomputable def K10 (k n1 : Nat) : C := loopD E h k c4 (K9 k) n1
noncomputable def c5 : Code := subC b [1, 1, 0, 1, 0, 0, 1]
noncomputable def K11 (k n1 : Nat) : C := outD h c5 (K10 k n1)
noncomputable def K12 (k n1 : Nat) : C := seqC E h k c5 (K10 k n1)
noncomputable def c6 : Code := subC b [1, 1, 0, 1, 0, 0, 1, 1]
noncomputable def K13 (k n1 : Nat) : C := outD h c6 (K11 k n1)
noncomputable def K14 (k n1 : Nat) : C := seqC E h k c6 (K11 k n1)
noncomputable def c7 : Code := subC b [1, 1, 0, 1, 0, 0, 1, 1, 1]
noncomputable def K15 (k n1 : Nat) : C := outD h c7 (K13 k n1)
noncomputable def K16 (k n1 : Nat) : C := seqC E h k c7 (K13 k n1)
noncomputable def K17 (k n1 : Nat) : C := blockK 1 (K16 k n1)
noncomputable def c8 : Code := subC b [1, 1, 0, 1, 0, 0, 1, 1, 0, 0, 1]
noncomputable def K18 (k n1 : Nat) : C := outD h c8 (K17 k n1)
noncomputable def K19 (k n1 : Nat) : C := seqC E h k c8 (K17 k n1)
noncomputable def c9 : Code := subC b [1, 1, 0, 1, 0, 0, 1, 1, 0, 0, 1, 1]
noncomputable def K20 (k n1 : Nat) : C := outD h c9 (K18 k n1)
noncomputable def K21 (k n1 : Nat) : C := seqC E h k c9 (K18 k n1)
noncomputable def c10 : Code := subC b [1, 1, 1, 1]
noncomputable def K22 (k : Nat) : C := outD h c10 (K5 k)
noncomputable def K23 (k : Nat) : C := seqC E h k c10 (K5 k)
abbrev T2 := (List (Int)) → Int → (List (Int)) → R
abbrev T3 := (List (Int)) → R
abbrev T1 := (List (Int)) → Int → (List (Int)) → R
abbrev T0 := (List (Int)) → R
abbrev s2 : (List (Int)) → Int → (List (Int)) → ST cx := fun (x3 : List (Int)) (x5 : Int) (m1 : List (Int)) => ({ vars := [(1, .addr (.mem 1) []), (3, .v (.slice 5 (.int .u8)) (.own .ro) x3), (5, .v (.int .i64) .ro x5)], scr := [], mems := [(1, ⟨(.agg (.arr 4 (.int .u64))), .ro, m1⟩)] } : ST cx)
noncomputable def u2 (k n1 : Nat) : T2 := fun (x3 : List (Int)) (x5 : Int) (m1 : List (Int)) => uK (run E h k c7) (s2 x3 x5 m1) (K15 k n1)
noncomputable abbrev l2 (k n1 : Nat) : T2 := fun (x3 : List (Int)) (x5 : Int) (m1 : List (Int)) => cutK (run E h k c7) (s2 x3 x5 m1) (K15 k n1)
abbrev s3 : (List (Int)) → ST cx := fun (x3 : List (Int)) => ({ vars := [(3, .v (.slice 5 (.int .u8)) (.own .ro) x3)], scr := [], mems := [] } : ST cx)
noncomputable def u3 (k : Nat) : T3 := fun (x3 : List (Int)) => uK (run E h k c2) (s3 x3) (K5 k)
noncomputable abbrev l3 (k : Nat) : T3 := fun (x3 : List (Int)) => cutK (run E h k c2) (s3 x3) (K5 k)
abbrev s1 : (List (Int)) → Int → (List (Int)) → ST cx := fun (x3 : List (Int)) (x5 : Int) (m1 : List (Int)) => ({ vars := [(1, .addr (.mem 1) []), (3, .v (.slice 5 (.int .u8)) (.own .ro) x3), (5, .v (.int .i64) .ro x5)], scr := [], mems := [(1, ⟨(.agg (.arr 4 (.int .u64))), .ro, m1⟩)] } : ST cx)
noncomputable def u1 (k n1 : Nat) : T1 := fun (x3 : List (Int)) (x5 : Int) (m1 : List (Int)) => uK (loopL E h k c4 (K9 k) n1) (s1 x3 x5 m1) ()
noncomputable abbrev l1 (k n1 : Nat) : T1 := fun (x3 : List (Int)) (x5 : Int) (m1 : List (Int)) => cutK (loopL E h k c4 (K9 k) n1) (s1 x3 x5 m1) ()
noncomputable def u0 (k : Nat) : T0 := fun (x0 : List (Int)) => runOf (S := cx) E h k Tryd.f10 [.val (.agg (.arr 4 (.int .u64)))] (.slice 5 (.int .u8)) .ro (x0, ())
def t2 (f1 : T1) : T2 := fun (x3 : List (Int)) (x5 : Int) (m1 : List (Int)) => 
  (f1 x3 (w64 (x5 + (1 : Int))) m1)
theorem e2 (k n1 : Nat) : u2 k n1 = t2 (l1 k n1) := by kernel_rfl
theorem g2 (k n1 : Nat) : l2 k n1 = u2 k n1 := funext fun _ => funext fun _ => funext fun _ => cut_u _ _ _
theorem d2 {x1 y1 : T1} (h1 : x1 = y1) : t2 x1 = t2 y1 := by subst h1; rfl
def p2 (k : Nat) (a1 : T1) : T2 := t2 a1
theorem o2 (k n1 : Nat) (a1 : T1) (h1 : l1 k n1 = a1) : l2 k n1 = p2 k a1 := (Eq.trans (b := u2 k n1) (g2 k n1) (Eq.trans (b := t2 (l1 k n1)) (e2 k n1) (Eq.trans (b := t2 a1) (d2 h1) (by kernel_rfl))))
def t3 : T3 := fun (x3 : List (Int)) => 
  (some (x3, ()))
theorem e3 (k : Nat) : u3 k = t3 := by kernel_rfl
theorem g3 (k : Nat) : l3 k = u3 k := funext fun _ => cut_u _ _ _
def p3 (k : Nat) : T3 := t3
theorem o3 (k : Nat) : l3 k = p3 k := (Eq.trans (b := u3 k) (g3 k) (Eq.trans (b := t3) (e3 k) (by kernel_rfl)))
def t1 (f2 : T2) (f3 : T3) : T1 := fun (x3 : List (Int)) (x5 : Int) (m1 : List (Int)) => 
  (iteB (decide (x5 < (256 : Int))) (bindR (s_bytesets_Has (m1, ((w8 (x5)), ()))) fun r1 => (iteB r1.1 (mustR (room x3 ([(w8 (x5))] : List (Int))) (f2 (x3 ++ ([(w8 (x5))] : List (Int))) x5 m1)) (f2 x3 x5 m1))) (f3 x3))
theorem e1 (k n1 : Nat) : u1 k (n1 + 1) = t1 (l2 k n1) (l3 k) := by kernel_rfl
theorem g1 (k n1 : Nat) : l1 k (n1 + 1) = u1 k (n1 + 1) := funext fun _ => funext fun _ => funext fun _ => cut_u _ _ _
theorem d1 {x2 y2 : T2} {x3 y3 : T3} (h2 : x2 = y2) (h3 : x3 = y3) : t1 x2 x3 = t1 y2 y3 := by subst h2; subst h3; rfl
def p1 (k : Nat) : Nat → T1
  | 0 => fun _ _ _ => none
  | n1 + 1 => t1 (p2 k (p1 k n1)) (p3 k)
theorem o1 (k : Nat) : ∀ n1, l1 k n1 = p1 k n1 := by
  intro n1
  induction n1 with
  | zero => kernel_rfl
  | succ n1 ih => exact (Eq.trans (b := u1 k (n1 + 1)) (g1 k n1) (Eq.trans (b := t1 (l2 k n1) (l3 k)) (e1 k n1) (Eq.trans (b := t1 (p2 k (p1 k n1)) (p3 k)) (d1 (o2 k n1 (p1 k n1) ih) (o3 k)) (by kernel_rfl))))
def t0 (f1 : T1) : T0 := fun (x0 : List (Int)) => 
  (f1 ([] : List (Int)) (0 : Int) x0)
theorem e0 (k : Nat) : u0 k = t0 (l1 k k) := by kernel_rfl
theorem d0 {x1 y1 : T1} (h1 : x1 = y1) : t0 x1 = t0 y1 := by subst h1; rfl
def p0 (k : Nat) : T0 := t0 (p1 k k)
theorem o0 (k : Nat) : u0 k = p0 k := (Eq.trans (b := t0 (l1 k k)) (e0 k) (Eq.trans (b := t0 (p1 k k)) (d0 (o1 k k)) (by kernel_rfl)))
end bytesets_Bytes
def s_bytesets_Bytes (a : (List (Int)) × (Unit)) : Option ((List (Int)) × (Unit)) := bytesets_Bytes.p0 (fuel) a.1
noncomputable def F_bytesets_Bytes : FSpec cx.toNm := { ps := [.val (.agg (.arr 4 (.int .u64)))], nres := 1, rt := (.slice 5 (.int .u8)), rm := .ro, f := s_bytesets_Bytes }
theorem w_bytesets_Bytes (a : (List (Int)) × (Unit)) : runOf (S := cx) bytesets_Bytes.E bytesets_Bytes.h (fuel) Tryd.f10 F_bytesets_Bytes.ps F_bytesets_Bytes.rt F_bytesets_Bytes.rm a = F_bytesets_Bytes.f a := Eq.trans (b := bytesets_Bytes.u0 (fuel) a.1) (by kernel_rfl) (Eq.trans (b := bytesets_Bytes.p0 (fuel) a.1) (congrFun (bytesets_Bytes.o0 (fuel)) a.1) (by kernel_rfl))
theorem ok_bytesets_Bytes : FnOk Tryd.prog F_bytesets_Bytes 10 := fn_of (hn := bytesets_Bytes.h) (E := bytesets_Bytes.E) cxOk (tysT _) (fs_cons ok_bytesets_Has fs_nil) follows Tryd.func10 (by kernel_rfl) (fun a r h => ⟨fuel, Eq.trans (w_bytesets_Bytes a) h⟩)
namespace law05_BytesetsOf
noncomputable def E : Env cx := { tys := tys, fs := fsOf [(4, F_law05_alive), (5, F_bytesets_Of), (6, F_bytesets_Range), (7, F_ref05_Put), (8, F_bytesets_First), (9, F_ref05_Bytes), (10, F_bytesets_Bytes), (11, F_bytesets_Len), (12, F_bytesets_Has), (13, F_bytesets_All)] }
abbrev R := Option ((Bool) × (Unit))
abbrev C := Exit → ST cx → R
noncomputable def b : Code := bodyC Tryd.f3
noncomputable def h : Hint := { vs := [0, 1, 2, 3, 8, 9, 10, 11, 12, 13, 14, 15, 16], nil := [], cuts := [(9, ([0, 1, 2, 3, 9, 10, 11, 12, 13], [9, 10, 11]), ([1, 2, 3, 9, 10, 11, 12], [9, 10, 11])), (10, ([0, 1, 2, 3, 9, 10, 11, 12, 13], [9, 10, 11]), ([0, 1, 2, 3, 9, 10, 11, 12, 13], [9, 10, 11])), (13, ([1, 2, 3, 9, 10, 11, 12], [9, 10, 11]), ([1, 2, 3, 9, 10, 11, 12], [9, 10, 11])), (16, ([14, 15, 16, 93], []), ([14, 15, 16], [])), (17, ([14, 15, 16], []), ([14, 15, 16], []))], ret := ([8], [9, 10, 11]), ords := [(15, [0, 1, 2, 3, 4, 7, 8, 5, 6, 9, 10, 11, 12, 14, 15, 13, 16, 17, 18, 19, 20, 22, 21, 23, 24, 25, 26, 27, 29, 30, 31, 28, 32, 33, 34, 35, 36, 37, 38])] }
noncomputable def K0 : C := fin (S := cx) E Tryd.f3.results.toList .bool .ro [] []
noncomputable def c0 : Code := subC b [1]
noncomputable def K1 (k : Nat) : C := outD h c0 K0
noncomputable def K2 (k : Nat) : C := seqC E h k c0 K0
noncomputable def c1 : Code := subC b [1, 1]
noncomputable def K3 (k : Nat) : C := outD h c1 (K1 k)
noncomputable def K4 (k : Nat) : C := seqC E h k c1 (K1 k)
noncomputable def c2 : Code := subC b [1, 0, 1]
noncomputable def K5 (k : Nat) : C := outD h c2 (K4 k)
noncomputable def K6 (k : Nat) : C := seqC E h k c2 (K4 k)
noncomputable def c3 : Code := subC b [1, 0, 1, 0, 1]
noncomputable def K7 (k : Nat) : C := outD h c3 (K5 k)
noncomputable def K8 (k : Nat) : C := seqC E h k c3 (K5 k)
noncomputable def c4 : Code := subC b [1, 1, 1]
noncomputable def K9 (k : Nat) : C := outD h c4 (K3 k)
noncomputable def K10 (k : Nat) : C := seqC E h k c4 (K3 k)
noncomputable def c5 : Code := subC b [1, 1, 0, 1]
noncomputable def K11 (k : Nat) : C := outD h c5 (K10 k)
noncomputable def K12 (k : Nat) : C := seqC E h k c5 (K10 k)
noncomputable def c6 : Code := subC b [1, 1, 0, 1, 0, 1]
noncomputable def K13 (k : Nat) : C := outD h c6 (K11 k)
noncomputable def K14 (k : Nat) : C := seqC E h k c6 (K11 k)
noncomputable def c7 : Code := subC b [1, 1, 1, 1]
noncomputable def K15 (k : Nat) : C := outD h c7 (K9 k)
noncomputable def K16 (k : Nat) : C := seqC E h k c7 (K9 k)
noncomputable def c8 : Code := subC b [1, 1, 1, 1, 1]
noncomputable def K17 (k : Nat) : C := outD h c8 (K15 k)
noncomputable def K18 (k : Nat) : C := seqC E h k c8 (K15 k)
noncomputable def c9 : Code := subC b [1, 1, 1, 1, 1, 1]
noncomputable def K19 (k : Nat) : C := outD h c9 (K17 k)
noncomputable def K20 (k : Nat) : C := seqC E h k c9 (K17 k)
noncomputable def c10 : Code := subC b [1, 1, 1, 1, 1, 1, 1]
noncomputable def K21 (k : Nat) : C := outD h c10 (K19 k)
noncomputable def K22 (k : Nat) : C := seqC E h k c10 (K19 k)
noncomputable def c11 : Code := subC b [1, 1, 1, 1, 1, 1, 0, 1]
noncomputable def K23 (k : Nat) : C := outD h c11 (K22 k)
noncomputable def K24 (k : Nat) : C := seqC E h k c11 (K22 k)
noncomputable def K25 (k : Nat) : C := blockK 0 (K23 k)
noncomputable def c12 : Code := subC b [1, 1, 1, 1, 1, 1, 0, 1, 0, 0]
noncomputable def K26 (k n1 : Nat) : C := loopD E h k c12 (K25 k) n1
noncomputable def c13 : Code := subC b [1, 1, 1, 1, 1, 1, 0, 1, 0, 0, 1]
noncomputable def K27 (k n1 : Nat) : C := outD h c13 (K26 k n1)
noncomputable def K28 (k n1 : Nat) : C := seqC E h k c13 (K26 k n1)
noncomputable def c14 : Code := subC b [1, 1, 1, 1, 1, 1, 0, 1, 0, 0, 0, 1]
noncomputable def K29 (k n1 : Nat) : C := outD h c14 (K28 k n1)
noncomputable def K30 (k n1 : Nat) : C := seqC E h k c14 (K28 k n1)
noncomputable def c15 : Code := subC b [1, 1, 1, 1, 1, 1, 0, 1, 0, 0, 1, 1]
noncomputable def K31 (k n1 : Nat) : C := outD h c15 (K27 k n1)
noncomputable def K32 (k n1 : Nat) : C := seqC E h k c15 (K27 k n1)
noncomputable def K33 (k n1 : Nat) : C := blockK 1 (K32 k n1)
noncomputable def c16 : Code := subC b [1, 1, 1, 1, 1, 1, 0, 1, 0, 0, 1, 0, 0, 1]
noncomputable def K34 (k n1 : Nat) : C := outD h c16 (K33 k n1)
noncomputable def K35 (k n1 : Nat) : C := seqC E h k c16 (K33 k n1)
noncomputable def c17 : Code := subC b [1, 1, 1, 1, 1, 1, 1, 1]
noncomputable def K36 (k : Nat) : C := outD h c17 (K21 k)
noncomputable def K37 (k : Nat) : C := seqC E h k c17 (K21 k)
noncomputable def c18 : Code := subC b [1, 1, 1, 1, 1, 1, 1, 1, 1]
noncomputable def K38 (k : Nat) : C := outD h c18 (K36 k)
noncomputable def K39 (k : Nat) : C := seqC E h k c18 (K36 k)
noncomputable def c19 : Code := subC b [1, 1, 1, 1, 1, 1, 1, 1, 1, 1]
noncomputable def K40 (k : Nat) : C := outD h c19 (K38 k)
noncomputable def K41 (k : Nat) : C := seqC E h k c19 (K38 k)
noncomputable def c20 : Code := subC b [1, 1, 1, 1, 1, 1, 1, 1, 1, 0, 1]
noncomputable def K42 (k : Nat) : C := outD h c20 (K41 k)
noncomputable def K43 (k : Nat) : C := seqC E h k c20 (K41 k)
noncomputable def c21 : Code := subC b [1, 1, 1, 1, 1, 1, 1, 1, 1, 0, 1, 0, 1]
noncomputable def K44 (k : Nat) : C := outD h c21 (K42 k)
noncomputable def K45 (k : Nat) : C := seqC E h k c21 (K42 k)
noncomputable def c22 : Code := subC b [1, 1, 1, 1, 1, 1, 1, 1, 1, 1, 1]
noncomputable def K46 (k : Nat) : C := outD h c22 (K40 k)
noncomputable def K47 (k : Nat) : C := seqC E h k c22 (K40 k)
abbrev T2 := (List (Int)) → Int → Int → Int → Bool → Int → (List (Int)) → (List (Int)) → (List (Int)) → R
abbrev T5 := Int → Bool → (List (Int)) → R
abbrev T4 := Int → Bool → (List (Int)) → Bool → R
abbrev T3 := Int → Int → Int → Bool → (List (Int)) → (List (Int)) → (List (Int)) → R
abbrev T1 := (List (Int)) → Int → Int → Int → Bool → Int → (List (Int)) → (List (Int)) → (List (Int)) → R
abbrev T0 := (List (Int)) → Int → Int → Int → R
abbrev s2 : (List (Int)) → Int → Int → Int → Bool → Int → (List (Int)) → (List (Int)) → (List (Int)) → ST cx := fun (x0 : List (Int)) (x1 x2 x3 : Int) (x12 : Bool) (x13 : Int) (m9 m10 m11 : List (Int)) => ({ vars := [(0, .v (.slice 5 (.int .u8)) .ro x0), (1, .v (.int .u8) .ro x1), (2, .v (.int .u8) .ro x2), (3, .v (.int .u8) .ro x3), (9, .addr (.mem 9) []), (10, .addr (.mem 10) []), (11, .addr (.mem 11) []), (12, .v .bool .ro x12), (13, .v (.int .i64) .ro x13)], scr := [], mems := [(9, ⟨(.agg (.arr 4 (.int .u64))), .ro, m9⟩), (10, ⟨(.agg (.arr 4 (.int .u64))), .ro, m10⟩), (11, ⟨(.agg (.arr 4 (.int .u64))), .ro, m11⟩)] } : ST cx)
noncomputable def u2 (k n1 : Nat) : T2 := fun (x0 : List (Int)) (x1 x2 x3 : Int) (x12 : Bool) (x13 : Int) (m9 m10 m11 : List (Int)) => uK (run E h k c15) (s2 x0 x1 x2 x3 x12 x13 m9 m10 m11) (K31 k n1)
noncomputable abbrev l2 (k n1 : Nat) : T2 := fun (x0 : List (Int)) (x1 x2 x3 : Int) (x12 : Bool) (x13 : Int) (m9 m10 m11 : List (Int)) => cutK (run E h k c15) (s2 x0 x1 x2 x3 x12 x13 m9 m10 m11) (K31 k n1)
abbrev s5 : Int → Bool → (List (Int)) → ST cx := fun (x14 : Int) (x15 : Bool) (x16 : List (Int)) => ({ vars := [(14, .v (.int .u8) .ro x14), (15, .v .bool .ro x15), (16, .v (.slice 5 (.int .u8)) .ro x16)], scr := [], mems := [] } : ST cx)
noncomputable def u5 (k : Nat) : T5 := fun (x14 : Int) (x15 : Bool) (x16 : List (Int)) => uK (run E h k c19) (s5 x14 x15 x16) (K40 k)
noncomputable abbrev l5 (k : Nat) : T5 := fun (x14 : Int) (x15 : Bool) (x16 : List (Int)) => cutK (run E h k c19) (s5 x14 x15 x16) (K40 k)
abbrev s4 : Int → Bool → (List (Int)) → Bool → ST cx := fun (x14 : Int) (x15 : Bool) (x16 : List (Int)) (x93 : Bool) => ({ vars := [(14, .v (.int .u8) .ro x14), (15, .v .bool .ro x15), (16, .v (.slice 5 (.int .u8)) .ro x16), (93, .v .bool .ro x93)], scr := [], mems := [] } : ST cx)
noncomputable def u4 (k : Nat) : T4 := fun (x14 : Int) (x15 : Bool) (x16 : List (Int)) (x93 : Bool) => uK (run E h k c20) (s4 x14 x15 x16 x93) (K42 k)
noncomputable abbrev l4 (k : Nat) : T4 := fun (x14 : Int) (x15 : Bool) (x16 : List (Int)) (x93 : Bool) => cutK (run E h k c20) (s4 x14 x15 x16 x93) (K42 k)
abbrev s3 : Int → Int → Int → Bool → (List (Int)) → (List (Int)) → (List (Int)) → ST cx := fun (x1 x2 x3 : Int) (x12 : Bool) (m9 m10 m11 : List (Int)) => ({ vars := [(1, .v (.int .u8) .ro x1), (2, .v (.int .u8) .ro x2), (3, .v (.int .u8) .ro x3), (9, .addr (.mem 9) []), (10, .addr (.mem 10) []), (11, .addr (.mem 11) []), (12, .v .bool .ro x12)], scr := [], mems := [(9, ⟨(.agg (.arr 4 (.int .u64))), .ro, m9⟩), (10, ⟨(.agg (.arr 4 (.int .u64))), .ro, m10⟩), (11, ⟨(.agg (.arr 4 (.int .u64))), .ro, m11⟩)] } : ST cx)
noncomputable def u3 (k : Nat) : T3 := fun (x1 x2 x3 : Int) (x12 : Bool) (m9 m10 m11 : List (Int)) => uK (run E h k c10) (s3 x1 x2 x3 x12 m9 m10 m11) (K21 k)
noncomputable abbrev l3 (k : Nat) : T3 := fun (x1 x2 x3 : Int) (x12 : Bool) (m9 m10 m11 : List (Int)) => cutK (run E h k c10) (s3 x1 x2 x3 x12 m9 m10 m11) (K21 k)
abbrev s1 : (List (Int)) → Int → Int → Int → Bool → Int → (List (Int)) → (List (Int)) → (List (Int)) → ST cx := fun (x0 : List (Int)) (x1 x2 x3 : Int) (x12 : Bool) (x13 : Int) (m9 m10 m11 : List (Int)) => ({ vars := [(0, .v (.slice 5 (.int .u8)) .ro x0), (1, .v (.int .u8) .ro x1), (2, .v (.int .u8) .ro x2), (3, .v (.int .u8) .ro x3), (9, .addr (.mem 9) []), (10, .addr (.mem 10) []), (11, .addr (.mem 11) []), (12, .v .bool .ro x12), (13, .v (.int .i64) .ro x13)], scr := [], mems := [(9, ⟨(.agg (.arr 4 (.int .u64))), .ro, m9⟩), (10, ⟨(.agg (.arr 4 (.int .u64))), .ro, m10⟩), (11, ⟨(.agg (.arr 4 (.int .u64))), .ro, m11⟩)] } : ST cx)
noncomputable def u1 (k n1 : Nat) : T1 := fun (x0 : List (Int)) (x1 x2 x3 : Int) (x12 : Bool) (x13 : Int) (m9 m10 m11 : List (Int)) => uK (loopL E h k c12 (K25 k) n1) (s1 x0 x1 x2 x3 x12 x13 m9 m10 m11) ()
noncomputable abbrev l1 (k n1 : Nat) : T1 := fun (x0 : List (Int)) (x1 x2 x3 : Int) (x12 : Bool) (x13 : Int) (m9 m10 m11 : List (Int)) => cutK (loopL E h k c12 (K25 k) n1) (s1 x0 x1 x2 x3 x12 x13 m9 m10 m11) ()
noncomputable def u0 (k : Nat) : T0 := fun (x0 : List (Int)) (x1 x2 x3 : Int) => runOf (S := cx) E h k Tryd.f3 [.val (.slice 5 (.int .u8)), .val (.int .u8), .val (.int .u8), .val (.int .u8)] .bool .ro (x0, x1, x2, x3, ())
def t2 (f1 : T1) : T2 := fun (x0 : List (Int)) (x1 x2 x3 : Int) (x12 : Bool) (x13 : Int) (m9 m10 m11 : List (Int)) => 
  (f1 x0 x1 x2 x3 x12 (w64 (x13 + (1 : Int))) m9 m10 m11)
theorem e2 (k n1 : Nat) : u2 k n1 = t2 (l1 k n1) := by kernel_rfl
theorem g2 (k n1 : Nat) : l2 k n1 = u2 k n1 := funext fun _ => funext fun _ => funext fun _ => funext fun _ => funext fun _ => funext fun _ => funext fun _ => funext fun _ => funext fun _ => cut_u _ _ _
theorem d2 {x1 y1 : T1} (h1 : x1 = y1) : t2 x1 = t2 y1 := by subst h1; rfl
def p2 (k : Nat) (a1 : T1) : T2 := t2 a1
theorem o2 (k n1 : Nat) (a1 : T1) (h1 : l1 k n1 = a1) : l2 k n1 = p2 k a1 := (Eq.trans (b := u2 k n1) (g2 k n1) (Eq.trans (b := t2 (l1 k n1)) (e2 k n1) (Eq.trans (b := t2 a1) (d2 h1) (by kernel_rfl))))
def t5 : T5 := fun (x14 : Int) (x15 : Bool) (x16 : List (Int)) => 
  (iteB (x15 == (decide ((0 : Int) < ((List.length x16 : Nat) : Int)))) (iteB (notB x15) (iteB x15 (bindR (s_bytesets_All ()) fun r13 => (bindR (s_bytesets_Len (r13.1, ())) fun r14 => (some ((decide (r14.1 = (256 : Int))), ())))) (iteB (decide (x14 = (0 : Int))) (bindR (s_bytesets_All ()) fun r15 => (bindR (s_bytesets_Len (r15.1, ())) fun r16 => (some ((decide (r16.1 = (256 : Int))), ())))) (some (false, ())))) (withinR (0 : Int) (List.length x16) fun q17 => (iteB (decide (x14 = (List.getD x16 q17 (0 : Int)))) (iteB x15 (bindR (s_bytesets_All ()) fun r18 => (bindR (s_bytesets_Len (r18.1, ())) fun r19 => (some ((decide (r19.1 = (256 : Int))), ())))) (iteB (decide (x14 = (0 : Int))) (bindR (s_bytesets_All ()) fun r20 => (bindR (s_bytesets_Len (r20.1, ())) fun r21 => (some ((decide (r21.1 = (256 : Int))), ())))) (some (false, ())))) (some (false, ()))))) (some (false, ())))
theorem e5 (k : Nat) : u5 k = t5 := by kernel_rfl
theorem g5 (k : Nat) : l5 k = u5 k := funext fun _ => funext fun _ => funext fun _ => cut_u _ _ _
def p5 (k : Nat) : T5 := t5
theorem o5 (k : Nat) : l5 k = p5 k := (Eq.trans (b := u5 k) (g5 k) (Eq.trans (b := t5) (e5 k) (by kernel_rfl)))
def t4 (f5 : T5) : T4 := fun (x14 : Int) (x15 : Bool) (x16 : List (Int)) (x93 : Bool) => 
  (iteB x93 (some (false, ())) (f5 x14 x15 x16))
theorem e4 (k : Nat) : u4 k = t4 (l5 k) := by kernel_rfl
theorem g4 (k : Nat) : l4 k = u4 k := funext fun _ => funext fun _ => funext fun _ => funext fun _ => cut_u _ _ _
theorem d4 {x5 y5 : T5} (h5 : x5 = y5) : t4 x5 = t4 y5 := by subst h5; rfl
def p4 (k : Nat) : T4 := t4 (p5 k)
theorem o4 (k : Nat) : l4 k = p4 k := (Eq.trans (b := u4 k) (g4 k) (Eq.trans (b := t4 (l5 k)) (e4 k) (Eq.trans (b := t4 (p5 k)) (d4 (o5 k)) (by kernel_rfl))))
def t3 (f4 : T4) : T3 := fun (x1 x2 x3 : Int) (x12 : Bool) (m9 m10 m11 : List (Int)) => 
  (bindR (s_bytesets_First (m9, ())) fun r7 => (bindR (s_ref05_Bytes (m11, ())) fun r8 => (iteB (!(decide (m9 = m11))) (f4 r7.1.1 r7.1.2 r8.1 true) (bindR (s_bytesets_Bytes (m9, ())) fun r9 => (iteB (!(decide ((bytesOf r9.1) = (bytesOf r8.1)))) (f4 r7.1.1 r7.1.2 r8.1 true) (bindR (s_bytesets_Len (m9, ())) fun r10 => (iteB (!decide (r10.1 = ((List.length r8.1 : Nat) : Int))) (f4 r7.1.1 r7.1.2 r8.1 true) (bindR (s_bytesets_Has (m9, (x3, ()))) fun r11 => (iteB (!(r11.1 == x12)) (f4 r7.1.1 r7.1.2 r8.1 true) (bindR (s_bytesets_Has (m10, (x3, ()))) fun r12 => (iteB (decide (x1 ≤ x3)) (f4 r7.1.1 r7.1.2 r8.1 (!(r12.1 == (decide (x3 ≤ x2))))) (f4 r7.1.1 r7.1.2 r8.1 (!(r12.1 == false))))))))))))))
theorem e3 (k : Nat) : u3 k = t3 (l4 k) := by kernel_rfl
theorem g3 (k : Nat) : l3 k = u3 k := funext fun _ => funext fun _ => funext fun _ => funext fun _ => funext fun _ => funext fun _ => funext fun _ => cut_u _ _ _
theorem d3 {x4 y4 : T4} (h4 : x4 = y4) : t3 x4 = t3 y4 := by subst h4; rfl
def p3 (k : Nat) : T3 := t3 (p4 k)
theorem o3 (k : Nat) : l3 k = p3 k := (Eq.trans (b := u3 k) (g3 k) (Eq.trans (b := t3 (l4 k)) (e3 k) (Eq.trans (b := t3 (p4 k)) (d3 (o4 k)) (by kernel_rfl))))
def t1 (f2 : T2) (f3 : T3) : T1 := fun (x0 : List (Int)) (x1 x2 x3 : Int) (x12 : Bool) (x13 : Int) (m9 m10 m11 : List (Int)) => 
  (iteB (decide (x13 < ((List.length x0 : Nat) : Int))) (withinR x13 (List.length x0) fun q4 => (bindR (s_ref05_Put (m11, ((List.getD x0 q4 (0 : Int)), ()))) fun r5 => (iteB x12 (f2 x0 x1 x2 x3 true x13 m9 m10 r5.1) (withinR x13 (List.length x0) fun q6 => (f2 x0 x1 x2 x3 (decide ((List.getD x0 q6 (0 : Int)) = x3)) x13 m9 m10 r5.1))))) (f3 x1 x2 x3 x12 m9 m10 m11))
theorem e1 (k n1 : Nat) : u1 k (n1 + 1) = t1 (l2 k n1) (l3 k) := by kernel_rfl
theorem g1 (k n1 : Nat) : l1 k (n1 + 1) = u1 k (n1 + 1) := funext fun _ => funext fun _ => funext fun _ => funext fun _ => funext fun _ => funext fun _ => funext fun _ => funext fun _ => funext fun _ => cut_u _ _ _
theorem d1 {x2 y2 : T2} {x3 y3 : T3} (h2 : x2 = y2) (h3 : x3 = y3) : t1 x2 x3 = t1 y2 y3 := by subst h2; subst h3; rfl
def p1 (k : Nat) : Nat → T1
  | 0 => fun _ _ _ _ _ _ _ _ _ => none
  | n1 + 1 => t1 (p2 k (p1 k n1)) (p3 k)
theorem o1 (k : Nat) : ∀ n1, l1 k n1 = p1 k n1 := by
  intro n1
  induction n1 with
  | zero => kernel_rfl
  | succ n1 ih => exact (Eq.trans (b := u1 k (n1 + 1)) (g1 k n1) (Eq.trans (b := t1 (l2 k n1) (l3 k)) (e1 k n1) (Eq.trans (b := t1 (p2 k (p1 k n1)) (p3 k)) (d1 (o2 k n1 (p1 k n1) ih) (o3 k)) (by kernel_rfl))))
def t0 (f1 : T1) : T0 := fun (x0 : List (Int)) (x1 x2 x3 : Int) => 
  (bindR (s_law05_alive ()) fun r1 => (iteB (notB r1.1) (some (false, ())) (iteB (decide ((300 : Int) < ((List.length x0 : Nat) : Int))) (some (true, ())) (bindR (s_bytesets_Of (x0, ())) fun r2 => (bindR (s_bytesets_Range (x1, (x2, ()))) fun r3 => (f1 x0 x1 x2 x3 false (0 : Int) r2.1 r3.1 (List.replicate 4 (0 : Int))))))))
theorem e0 (k : Nat) : u0 k = t0 (l1 k k) := by kernel_rfl
theorem d0 {x1 y1 : T1} (h1 : x1 = y1) : t0 x1 = t0 y1 := by subst h1; rfl
def p0 (k : Nat) : T0 := t0 (p1 k k)
theorem o0 (k : Nat) : u0 k = p0 k := (Eq.trans (b := t0 (l1 k k)) (e0 k) (Eq.trans (b := t0 (p1 k k)) (d0 (o1 k k)) (by kernel_rfl)))
end law05_BytesetsOf
def s_law05_BytesetsOf (a : (List (Int)) × ((Int) × ((Int) × ((Int) × (Unit))))) : Option ((Bool) × (Unit)) := law05_BytesetsOf.p0 (fuel) a.1 a.2.1 a.2.2.1 a.2.2.2.1
noncomputable def F_law05_BytesetsOf : FSpec cx.toNm := { ps := [.val (.slice 5 (.int .u8)), .val (.int .u8), .val (.int .u8), .val (.int .u8)], nres := 1, rt := .bool, rm := .ro, f := s_law05_BytesetsOf }
theorem w_law05_BytesetsOf (a : (List (Int)) × ((Int) × ((Int) × ((Int) × (Unit))))) : runOf (S := cx) law05_BytesetsOf.E law05_BytesetsOf.h (fuel) Tryd.f3 F_law05_BytesetsOf.ps F_law05_BytesetsOf.rt F_law05_BytesetsOf.rm a = F_law05_BytesetsOf.f a := Eq.trans (b := law05_BytesetsOf.u0 (fuel) a.1 a.2.1 a.2.2.1 a.2.2.2.1) (by kernel_rfl) (Eq.trans (b := law05_BytesetsOf.p0 (fuel) a.1 a.2.1 a.2.2.1 a.2.2.2.1) (congrFun (congrFun (congrFun (congrFun (law05_BytesetsOf.o0 (fuel)) a.1) a.2.1) a.2.2.1) a.2.2.2.1) (by kernel_rfl))
theorem ok_law05_BytesetsOf : FnOk Tryd.prog F_law05_BytesetsOf 3 := fn_of (hn := law05_BytesetsOf.h) (E := law05_BytesetsOf.E) cxOk (tysT _) (fs_cons ok_law05_alive (fs_cons ok_bytesets_Of (fs_cons ok_bytesets_Range (fs_cons ok_ref05_Put (fs_cons ok_bytesets_First (fs_cons ok_ref05_Bytes (fs_cons ok_bytesets_Bytes (fs_cons ok_bytesets_Len (fs_cons ok_bytesets_Has (fs_cons ok_bytesets_All fs_nil)))))))))) follows Tryd.func3 (by kernel_rfl) (fun a r h => ⟨fuel, Eq.trans (w_law05_BytesetsOf a) h⟩)
end
end Go.Proofs.YtpmlimdilajidaaDoor.Vm.Bs
