/- What the functions of sets of bytes compute, as plain functions; that they do. -/
import Derived.Test.YtpmlimdilajidaaVm2
import Derived.Test.YtpmlimdilajidaaChecked
import Derived.KernelRfl
namespace Go.Proofs.Ytpmlimdilajidaa.Vm.Bs
open Go Go.Proofs.Ytpmlimdilajidaa.Vm Go.Proofs
set_option linter.unusedVariables false
set_option maxRecDepth 100000
noncomputable section
noncomputable def cx : Cx := { N := fun _ => Unit, body := fun _ => .unit, nsz := fun _ => 0, out := fun _ _ => (), pk := fun _ _ => (), dflt := fun _ => () }
theorem cxOk : cx.Ok := ⟨fun _ => rfl, fun _ _ => rfl⟩
noncomputable def tys : List (Nat × Ty) := [(3, (.int .i64)), (4, .bool), (5, (.int .u8)), (22, (.slice 25 (.agg (.arr 4 (.int .u64))))), (23, (.int .u64)), (25, (.agg (.arr 4 (.int .u64)))), (32, (.agg (.arr 256 (.int .u8)))), (35, (.slice 3 (.int .i64))), (46, (.map (.agg (.arr 4 (.int .u64))) (.int .u8))), (50, (.slice 5 (.int .u8))), (54, (.agg (.arr 2 (.agg (.arr 4 (.int .u64)))))), (55, (.int .u64))]
theorem tysT (l : List (Nat × FSpec cx.toNm)) : TysOk (S := cx) Try.prog { tys := tys, fs := fsOf l } := tysOk (by kernel_rfl)
theorem follows : Try.prog.follows .mixedOrders = true := by kernel_rfl
namespace bytesets_Not
noncomputable def E : Env cx := { tys := tys, fs := fsOf [] }
abbrev R := Option ((List (Int)) × (Unit))
abbrev C := Exit → ST cx → R
noncomputable def b : Code := bodyC Try.f10
noncomputable def h : Hint := { vs := [0, 1, 2, 3, 4], nil := [(0, (.own .ro))], cuts := [(2, ([1, 2, 4], [1, 2]), ([1, 2], [1, 2])), (6, ([1, 2], [1, 2]), ([1, 2], [1, 2]))], ret := ([2], [1, 2]), ords := [] }
noncomputable def K0 : C := fin (S := cx) E Try.f10.results.toList (.agg (.arr 4 (.int .u64))) .ro [] []
noncomputable def c0 : Code := subC b [1]
noncomputable def K1 (k : Nat) : C := outD h c0 K0
noncomputable def K2 (k : Nat) : C := seqC E h k c0 K0
noncomputable def c1 : Code := subC b [1, 1]
noncomputable def K3 (k : Nat) : C := outD h c1 (K1 k)
noncomputable def K4 (k : Nat) : C := seqC E h k c1 (K1 k)
noncomputable def c2 : Code := subC b [1, 0, 1]
noncomputable def K5 (k : Nat) : C := outD h c2 (K4 k)
noncomputable def K6 (k : Nat) : C := seqC E h k c2 (K4 k)
noncomputable def K7 (k : Nat) : C := blockK 0 (K5 k)
noncomputable def c3 : Code := subC b [1, 0, 1, 0, 0]
noncomputable def K8 (k n1 : Nat) : C := loopD E h k c3 (K7 k) n1
noncomputable def c4 : Code := subC b [1, 0, 1, 0, 0, 1]
noncomputable def K9 (k n1 : Nat) : C := outD h c4 (K8 k n1)
noncomputable def K10 (k n1 : Nat) : C := seqC E h k c4 (K8 k n1)
noncomputable def c5 : Code := subC b [1, 0, 1, 0, 0, 1, 1]
noncomputable def K11 (k n1 : Nat) : C := outD h c5 (K9 k n1)
noncomputable def K12 (k n1 : Nat) : C := seqC E h k c5 (K9 k n1)
noncomputable def c6 : Code := subC b [1, 0, 1, 0, 0, 1, 1, 1]
noncomputable def K13 (k n1 : Nat) : C := outD h c6 (K11 k n1)
noncomputable def K14 (k n1 : Nat) : C := seqC E h k c6 (K11 k n1)
noncomputable def K15 (k n1 : Nat) : C := blockK 1 (K14 k n1)
noncomputable def c7 : Code := subC b [1, 0, 1, 0, 0, 1, 1, 0, 0, 1]
noncomputable def K16 (k n1 : Nat) : C := outD h c7 (K15 k n1)
noncomputable def K17 (k n1 : Nat) : C := seqC E h k c7 (K15 k n1)
noncomputable def c8 : Code := subC b [1, 1, 1]
noncomputable def K18 (k : Nat) : C := outD h c8 (K3 k)
noncomputable def K19 (k : Nat) : C := seqC E h k c8 (K3 k)
abbrev T2 := (List (Int)) → (List (Int)) → R
abbrev T1 := Int → (List (Int)) → (List (Int)) → R
abbrev T0 := (List (Int)) → R
abbrev s2 : (List (Int)) → (List (Int)) → ST cx := fun (m1 m2 : List (Int)) => ({ vars := [(1, .addr (.mem 1) []), (2, .addr (.mem 2) [])], scr := [], mems := [(1, ⟨(.agg (.arr 4 (.int .u64))), .ro, m1⟩), (2, ⟨(.agg (.arr 4 (.int .u64))), .ro, m2⟩)] } : ST cx)
noncomputable def u2 (k : Nat) : T2 := fun (m1 m2 : List (Int)) => uK (run E h k c1) (s2 m1 m2) (K3 k)
noncomputable abbrev l2 (k : Nat) : T2 := fun (m1 m2 : List (Int)) => cutK (run E h k c1) (s2 m1 m2) (K3 k)
abbrev s1 : Int → (List (Int)) → (List (Int)) → ST cx := fun (x4 : Int) (m1 m2 : List (Int)) => ({ vars := [(1, .addr (.mem 1) []), (2, .addr (.mem 2) []), (4, .v (.int .i64) .ro x4)], scr := [], mems := [(1, ⟨(.agg (.arr 4 (.int .u64))), .ro, m1⟩), (2, ⟨(.agg (.arr 4 (.int .u64))), .ro, m2⟩)] } : ST cx)
noncomputable def u1 (k n1 : Nat) : T1 := fun (x4 : Int) (m1 m2 : List (Int)) => uK (loopL E h k c3 (K7 k) n1) (s1 x4 m1 m2) ()
noncomputable abbrev l1 (k n1 : Nat) : T1 := fun (x4 : Int) (m1 m2 : List (Int)) => cutK (loopL E h k c3 (K7 k) n1) (s1 x4 m1 m2) ()
noncomputable def u0 (k : Nat) : T0 := fun (x0 : List (Int)) => runOf (S := cx) E h k Try.f10 [.val (.agg (.arr 4 (.int .u64)))] (.agg (.arr 4 (.int .u64))) .ro (x0, ())
def t2 : T2 := fun (m1 m2 : List (Int)) => 
  (some (m1, ()))
theorem e2 (k : Nat) : u2 k = t2 := by kernel_rfl
theorem g2 (k : Nat) : l2 k = u2 k := funext fun _ => funext fun _ => cut_u _ _ _
def p2 (k : Nat) : T2 := t2
theorem o2 (k : Nat) : l2 k = p2 k := (Eq.trans (b := u2 k) (g2 k) (Eq.trans (b := t2) (e2 k) (by kernel_rfl)))
def t1 (f1 : T1) (f2 : T2) : T1 := fun (x4 : Int) (m1 m2 : List (Int)) => 
  (iteB (decide (x4 < (4 : Int))) (withinR x4 4 fun q1 => (withinR x4 4 fun q2 => (f1 (w64 (x4 + (1 : Int))) (List.set m1 q2 (notI .u64 (List.getD m1 q1 (0 : Int)))) m2))) (f2 m1 m2))
theorem e1 (k n1 : Nat) : u1 k (n1 + 1) = t1 (l1 k n1) (l2 k) := by kernel_rfl
theorem g1 (k n1 : Nat) : l1 k (n1 + 1) = u1 k (n1 + 1) := funext fun _ => funext fun _ => funext fun _ => cut_u _ _ _
theorem d1 {x1 y1 : T1} {x2 y2 : T2} (h1 : x1 = y1) (h2 : x2 = y2) : t1 x1 x2 = t1 y1 y2 := by subst h1; subst h2; rfl
def p1 (k : Nat) : Nat → T1
  | 0 => fun _ _ _ => none
  | n1 + 1 => t1 (p1 k n1) (p2 k)
theorem o1 (k : Nat) : ∀ n1, l1 k n1 = p1 k n1 := by
  intro n1
  induction n1 with
  | zero => kernel_rfl
  | succ n1 ih => exact (Eq.trans (b := u1 k (n1 + 1)) (g1 k n1) (Eq.trans (b := t1 (l1 k n1) (l2 k)) (e1 k n1) (Eq.trans (b := t1 (p1 k n1) (p2 k)) (d1 ih (o2 k)) (by kernel_rfl))))
def t0 (f1 : T1) : T0 := fun (x0 : List (Int)) => 
  (f1 (0 : Int) x0 (List.replicate 4 (0 : Int)))
theorem e0 (k : Nat) : u0 k = t0 (l1 k k) := by kernel_rfl
theorem d0 {x1 y1 : T1} (h1 : x1 = y1) : t0 x1 = t0 y1 := by subst h1; rfl
def p0 (k : Nat) : T0 := t0 (p1 k k)
theorem o0 (k : Nat) : u0 k = p0 k := (Eq.trans (b := t0 (l1 k k)) (e0 k) (Eq.trans (b := t0 (p1 k k)) (d0 (o1 k k)) (by kernel_rfl)))
end bytesets_Not
def s_bytesets_Not (a : (List (Int)) × (Unit)) : Option ((List (Int)) × (Unit)) := bytesets_Not.p0 (fuel) a.1
noncomputable def F_bytesets_Not : FSpec cx.toNm := { ps := [.val (.agg (.arr 4 (.int .u64)))], nres := 1, rt := (.agg (.arr 4 (.int .u64))), rm := .ro, f := s_bytesets_Not }
theorem w_bytesets_Not (a : (List (Int)) × (Unit)) : runOf (S := cx) bytesets_Not.E bytesets_Not.h (fuel) Try.f10 F_bytesets_Not.ps F_bytesets_Not.rt F_bytesets_Not.rm a = F_bytesets_Not.f a := Eq.trans (b := bytesets_Not.u0 (fuel) a.1) (by kernel_rfl) (Eq.trans (b := bytesets_Not.p0 (fuel) a.1) (congrFun (bytesets_Not.o0 (fuel)) a.1) (by kernel_rfl))
theorem ok_bytesets_Not : FnOk Try.prog F_bytesets_Not 10 := fn_of (hn := bytesets_Not.h) (E := bytesets_Not.E) cxOk (tysT _) fs_nil follows Try.func10 (by kernel_rfl) (fun a r h => ⟨fuel, Eq.trans (w_bytesets_Not a) h⟩)
namespace bytesets_All
noncomputable def E : Env cx := { tys := tys, fs := fsOf [(10, F_bytesets_Not)] }
abbrev R := Option ((List (Int)) × (Unit))
abbrev C := Exit → ST cx → R
noncomputable def b : Code := bodyC Try.f19
noncomputable def h : Hint := { vs := [0], nil := [], cuts := [], ret := ([0], [0]), ords := [] }
noncomputable def K0 : C := fin (S := cx) E Try.f19.results.toList (.agg (.arr 4 (.int .u64))) .ro [] []
noncomputable def c0 : Code := subC b [1]
noncomputable def K1 (k : Nat) : C := outD h c0 K0
noncomputable def K2 (k : Nat) : C := seqC E h k c0 K0
noncomputable def c1 : Code := subC b [1, 1]
noncomputable def K3 (k : Nat) : C := outD h c1 (K1 k)
noncomputable def K4 (k : Nat) : C := seqC E h k c1 (K1 k)
abbrev T0 := R
noncomputable def u0 (k : Nat) : T0 := runOf (S := cx) E h k Try.f19 [] (.agg (.arr 4 (.int .u64))) .ro (())
def t0 : T0 := 
  (bindR (s_bytesets_Not ((List.replicate 4 (0 : Int)), ())) fun r1 => (some (r1.1, ())))
theorem e0 (k : Nat) : u0 k = t0 := by kernel_rfl
def p0 (k : Nat) : T0 := t0
theorem o0 (k : Nat) : u0 k = p0 k := (Eq.trans (b := t0) (e0 k) (by kernel_rfl))
end bytesets_All
def s_bytesets_All (a : Unit) : Option ((List (Int)) × (Unit)) := bytesets_All.p0 (fuel)
noncomputable def F_bytesets_All : FSpec cx.toNm := { ps := [], nres := 1, rt := (.agg (.arr 4 (.int .u64))), rm := .ro, f := s_bytesets_All }
theorem w_bytesets_All (a : Unit) : runOf (S := cx) bytesets_All.E bytesets_All.h (fuel) Try.f19 F_bytesets_All.ps F_bytesets_All.rt F_bytesets_All.rm a = F_bytesets_All.f a := Eq.trans (b := bytesets_All.u0 (fuel)) (by kernel_rfl) (Eq.trans (b := bytesets_All.p0 (fuel)) (bytesets_All.o0 (fuel)) (by kernel_rfl))
theorem ok_bytesets_All : FnOk Try.prog F_bytesets_All 19 := fn_of (hn := bytesets_All.h) (E := bytesets_All.E) cxOk (tysT _) (fs_cons ok_bytesets_Not fs_nil) follows Try.func19 (by kernel_rfl) (fun a r h => ⟨fuel, Eq.trans (w_bytesets_All a) h⟩)
namespace bytesets_Or
noncomputable def E : Env cx := { tys := tys, fs := fsOf [] }
abbrev R := Option ((List (Int)) × (Unit))
abbrev C := Exit → ST cx → R
noncomputable def b : Code := bodyC Try.f8
noncomputable def h : Hint := { vs := [0, 2, 3, 5, 6, 7, 8, 9, 10, 14, 15], nil := [(3, .ro)], cuts := [(3, ([2, 3, 8, 9, 10], [2, 3]), ([2, 3], [2, 3])), (6, ([2, 3, 8, 9, 10, 14, 15], [2, 3]), ([2, 3, 8, 9, 10], [2, 3])), (10, ([2, 3, 8, 9, 10], [2, 3]), ([2, 3, 8, 9, 10], [2, 3])), (11, ([2, 3], [2, 3]), ([2, 3], [2, 3]))], ret := ([2], [2, 3, 5]), ords := [] }
noncomputable def K0 : C := fin (S := cx) E Try.f8.results.toList (.agg (.arr 4 (.int .u64))) .ro [] []
noncomputable def c0 : Code := subC b [1]
noncomputable def K1 (k : Nat) : C := outD h c0 K0
noncomputable def K2 (k : Nat) : C := seqC E h k c0 K0
noncomputable def c1 : Code := subC b [1, 1]
noncomputable def K3 (k : Nat) : C := outD h c1 (K1 k)
noncomputable def K4 (k : Nat) : C := seqC E h k c1 (K1 k)
noncomputable def c2 : Code := subC b [1, 1, 1]
noncomputable def K5 (k : Nat) : C := outD h c2 (K3 k)
noncomputable def K6 (k : Nat) : C := seqC E h k c2 (K3 k)
noncomputable def c3 : Code := subC b [1, 1, 0, 1]
noncomputable def K7 (k : Nat) : C := outD h c3 (K6 k)
noncomputable def K8 (k : Nat) : C := seqC E h k c3 (K6 k)
noncomputable def K9 (k : Nat) : C := blockK 0 (K7 k)
noncomputable def c4 : Code := subC b [1, 1, 0, 1, 0, 0]
noncomputable def K10 (k n1 : Nat) : C := loopD E h k c4 (K9 k) n1
noncomputable def c5 : Code := subC b [1, 1, 0, 1, 0, 0, 1]
noncomputable def K11 (k n1 : Nat) : C := outD h c5 (K10 k n1)
noncomputable def K12 (k n1 : Nat) : C := seqC E h k c5 (K10 k n1)
noncomputable def c6 : Code := subC b [1, 1, 0, 1, 0, 0, 1, 1]
noncomputable def K13 (k n1 : Nat) : C := outD h c6 (K11 k n1)
noncomputable def K14 (k n1 : Nat) : C := seqC E h k c6 (K11 k n1)
noncomputable def c7 : Code := subC b [1, 1, 0, 1, 0, 0, 1, 1, 1]
noncomputable def K15 (k n1 : Nat) : C := outD h c7 (K13 k n1)
noncomputable def K16 (k n1 : Nat) : C := seqC E h k c7 (K13 k n1)
noncomputable def K17 (k n1 : Nat) : C := blockK 1 (K16 k n1)
noncomputable def c8 : Code := subC b [1, 1, 0, 1, 0, 0, 1, 1, 0, 0, 1]
noncomputable def K18 (k n1 : Nat) : C := outD h c8 (K17 k n1)
noncomputable def K19 (k n1 : Nat) : C := seqC E h k c8 (K17 k n1)
noncomputable def c9 : Code := subC b [1, 1, 0, 1, 0, 0, 1, 1, 0, 0, 1, 1]
noncomputable def K20 (k n1 : Nat) : C := outD h c9 (K18 k n1)
noncomputable def K21 (k n1 : Nat) : C := seqC E h k c9 (K18 k n1)
noncomputable def K22 (k n1 : Nat) : C := blockK 2 (K20 k n1)
noncomputable def c10 : Code := subC b [1, 1, 0, 1, 0, 0, 1, 1, 0, 0, 1, 1, 0, 0]
noncomputable def K23 (k n1 n2 : Nat) : C := loopD E h k c10 (K22 k n1) n2
noncomputable def c11 : Code := subC b [1, 1, 0, 1, 0, 0, 1, 1, 0, 0, 1, 1, 0, 0, 1]
noncomputable def K24 (k n1 n2 : Nat) : C := outD h c11 (K23 k n1 n2)
noncomputable def K25 (k n1 n2 : Nat) : C := seqC E h k c11 (K23 k n1 n2)
noncomputable def c12 : Code := subC b [1, 1, 0, 1, 0, 0, 1, 1, 0, 0, 1, 1, 0, 0, 1, 1]
noncomputable def K26 (k n1 n2 : Nat) : C := outD h c12 (K24 k n1 n2)
noncomputable def K27 (k n1 n2 : Nat) : C := seqC E h k c12 (K24 k n1 n2)
noncomputable def c13 : Code := subC b [1, 1, 0, 1, 0, 0, 1, 1, 0, 0, 1, 1, 0, 0, 1, 1, 1]
noncomputable def K28 (k n1 n2 : Nat) : C := outD h c13 (K26 k n1 n2)
noncomputable def K29 (k n1 n2 : Nat) : C := seqC E h k c13 (K26 k n1 n2)
noncomputable def K30 (k n1 n2 : Nat) : C := blockK 3 (K29 k n1 n2)
noncomputable def c14 : Code := subC b [1, 1, 0, 1, 0, 0, 1, 1, 0, 0, 1, 1, 0, 0, 1, 1, 0, 0, 1]
noncomputable def K31 (k n1 n2 : Nat) : C := outD h c14 (K30 k n1 n2)
noncomputable def K32 (k n1 n2 : Nat) : C := seqC E h k c14 (K30 k n1 n2)
noncomputable def c15 : Code := subC b [1, 1, 1, 1]
noncomputable def K33 (k : Nat) : C := outD h c15 (K5 k)
noncomputable def K34 (k : Nat) : C := seqC E h k c15 (K5 k)
abbrev T4 := (List (List (Int))) → Int → Int → (List (Int)) → (List (Int)) → R
abbrev T2 := (List (List (Int))) → Int → Int → (List (Int)) → Int → (List (Int)) → (List (Int)) → R
abbrev T3 := (List (Int)) → (List (Int)) → R
abbrev T1 := (List (List (Int))) → Int → Int → (List (Int)) → (List (Int)) → R
abbrev T0 := (List (List (Int))) → R
abbrev s4 : (List (List (Int))) → Int → Int → (List (Int)) → (List (Int)) → ST cx := fun (x8 : List (List (Int))) (x9 x10 : Int) (m2 m3 : List (Int)) => ({ vars := [(2, .addr (.mem 2) []), (3, .addr (.mem 3) []), (8, .v (.slice 25 (.agg (.arr 4 (.int .u64)))) .ro x8), (9, .v (.int .i64) .ro x9), (10, .v (.int .i64) .ro x10)], scr := [], mems := [(2, ⟨(.agg (.arr 4 (.int .u64))), .ro, m2⟩), (3, ⟨(.agg (.arr 4 (.int .u64))), .ro, m3⟩)] } : ST cx)
noncomputable def u4 (k n1 : Nat) : T4 := fun (x8 : List (List (Int))) (x9 x10 : Int) (m2 m3 : List (Int)) => uK (run E h k c7) (s4 x8 x9 x10 m2 m3) (K15 k n1)
noncomputable abbrev l4 (k n1 : Nat) : T4 := fun (x8 : List (List (Int))) (x9 x10 : Int) (m2 m3 : List (Int)) => cutK (run E h k c7) (s4 x8 x9 x10 m2 m3) (K15 k n1)
abbrev s2 : (List (List (Int))) → Int → Int → (List (Int)) → Int → (List (Int)) → (List (Int)) → ST cx := fun (x8 : List (List (Int))) (x9 x10 : Int) (x14 : List (Int)) (x15 : Int) (m2 m3 : List (Int)) => ({ vars := [(2, .addr (.mem 2) []), (3, .addr (.mem 3) []), (8, .v (.slice 25 (.agg (.arr 4 (.int .u64)))) .ro x8), (9, .v (.int .i64) .ro x9), (10, .v (.int .i64) .ro x10), (14, .v (.agg (.arr 4 (.int .u64))) .ro x14), (15, .v (.int .i64) .ro x15)], scr := [], mems := [(2, ⟨(.agg (.arr 4 (.int .u64))), .ro, m2⟩), (3, ⟨(.agg (.arr 4 (.int .u64))), .ro, m3⟩)] } : ST cx)
noncomputable def u2 (k n1 n2 : Nat) : T2 := fun (x8 : List (List (Int))) (x9 x10 : Int) (x14 : List (Int)) (x15 : Int) (m2 m3 : List (Int)) => uK (loopL E h k c10 (K22 k n1) n2) (s2 x8 x9 x10 x14 x15 m2 m3) ()
noncomputable abbrev l2 (k n1 n2 : Nat) : T2 := fun (x8 : List (List (Int))) (x9 x10 : Int) (x14 : List (Int)) (x15 : Int) (m2 m3 : List (Int)) => cutK (loopL E h k c10 (K22 k n1) n2) (s2 x8 x9 x10 x14 x15 m2 m3) ()
abbrev s3 : (List (Int)) → (List (Int)) → ST cx := fun (m2 m3 : List (Int)) => ({ vars := [(2, .addr (.mem 2) []), (3, .addr (.mem 3) [])], scr := [], mems := [(2, ⟨(.agg (.arr 4 (.int .u64))), .ro, m2⟩), (3, ⟨(.agg (.arr 4 (.int .u64))), .ro, m3⟩)] } : ST cx)
noncomputable def u3 (k : Nat) : T3 := fun (m2 m3 : List (Int)) => uK (run E h k c2) (s3 m2 m3) (K5 k)
noncomputable abbrev l3 (k : Nat) : T3 := fun (m2 m3 : List (Int)) => cutK (run E h k c2) (s3 m2 m3) (K5 k)
abbrev s1 : (List (List (Int))) → Int → Int → (List (Int)) → (List (Int)) → ST cx := fun (x8 : List (List (Int))) (x9 x10 : Int) (m2 m3 : List (Int)) => ({ vars := [(2, .addr (.mem 2) []), (3, .addr (.mem 3) []), (8, .v (.slice 25 (.agg (.arr 4 (.int .u64)))) .ro x8), (9, .v (.int .i64) .ro x9), (10, .v (.int .i64) .ro x10)], scr := [], mems := [(2, ⟨(.agg (.arr 4 (.int .u64))), .ro, m2⟩), (3, ⟨(.agg (.arr 4 (.int .u64))), .ro, m3⟩)] } : ST cx)
noncomputable def u1 (k n1 : Nat) : T1 := fun (x8 : List (List (Int))) (x9 x10 : Int) (m2 m3 : List (Int)) => uK (loopL E h k c4 (K9 k) n1) (s1 x8 x9 x10 m2 m3) ()
noncomputable abbrev l1 (k n1 : Nat) : T1 := fun (x8 : List (List (Int))) (x9 x10 : Int) (m2 m3 : List (Int)) => cutK (loopL E h k c4 (K9 k) n1) (s1 x8 x9 x10 m2 m3) ()
noncomputable def u0 (k : Nat) : T0 := fun (x0 : List (List (Int))) => runOf (S := cx) E h k Try.f8 [.val (.slice 25 (.agg (.arr 4 (.int .u64))))] (.agg (.arr 4 (.int .u64))) .ro (x0, ())
def t4 (f1 : T1) : T4 := fun (x8 : List (List (Int))) (x9 x10 : Int) (m2 m3 : List (Int)) => 
  (f1 x8 x9 (w64 (x10 + (1 : Int))) m2 m3)
theorem e4 (k n1 : Nat) : u4 k n1 = t4 (l1 k n1) := by kernel_rfl
theorem g4 (k n1 : Nat) : l4 k n1 = u4 k n1 := funext fun _ => funext fun _ => funext fun _ => funext fun _ => funext fun _ => cut_u _ _ _
theorem d4 {x1 y1 : T1} (h1 : x1 = y1) : t4 x1 = t4 y1 := by subst h1; rfl
def p4 (k : Nat) (a1 : T1) : T4 := t4 a1
theorem o4 (k n1 : Nat) (a1 : T1) (h1 : l1 k n1 = a1) : l4 k n1 = p4 k a1 := (Eq.trans (b := u4 k n1) (g4 k n1) (Eq.trans (b := t4 (l1 k n1)) (e4 k n1) (Eq.trans (b := t4 a1) (d4 h1) (by kernel_rfl))))
def t2 (f2 : T2) (f4 : T4) : T2 := fun (x8 : List (List (Int))) (x9 x10 : Int) (x14 : List (Int)) (x15 : Int) (m2 m3 : List (Int)) => 
  (iteB (decide (x15 < (4 : Int))) (withinR x15 4 fun q2 => (withinR x15 4 fun q3 => (withinR x15 4 fun q4 => (f2 x8 x9 x10 x14 (w64 (x15 + (1 : Int))) m2 (List.set m3 q4 (bitI .or .u64 (List.getD m3 q3 (0 : Int)) (List.getD x14 q2 (0 : Int)))))))) (f4 x8 x9 x10 m2 m3))
theorem e2 (k n1 n2 : Nat) : u2 k n1 (n2 + 1) = t2 (l2 k n1 n2) (l4 k n1) := by kernel_rfl
theorem g2 (k n1 n2 : Nat) : l2 k n1 (n2 + 1) = u2 k n1 (n2 + 1) := funext fun _ => funext fun _ => funext fun _ => funext fun _ => funext fun _ => funext fun _ => funext fun _ => cut_u _ _ _
theorem d2 {x2 y2 : T2} {x4 y4 : T4} (h2 : x2 = y2) (h4 : x4 = y4) : t2 x2 x4 = t2 y2 y4 := by subst h2; subst h4; rfl
def p2 (k : Nat) (a1 : T1) : Nat → T2
  | 0 => fun _ _ _ _ _ _ _ => none
  | n2 + 1 => t2 (p2 k a1 n2) (p4 k a1)
theorem o2 (k n1 : Nat) (a1 : T1) (h1 : l1 k n1 = a1) : ∀ n2, l2 k n1 n2 = p2 k a1 n2 := by
  intro n2
  induction n2 with
  | zero => kernel_rfl
  | succ n2 ih => exact (Eq.trans (b := u2 k n1 (n2 + 1)) (g2 k n1 n2) (Eq.trans (b := t2 (l2 k n1 n2) (l4 k n1)) (e2 k n1 n2) (Eq.trans (b := t2 (p2 k a1 n2) (p4 k a1)) (d2 ih (o4 k n1 a1 h1)) (by kernel_rfl))))
def t3 : T3 := fun (m2 m3 : List (Int)) => 
  (some (m3, ()))
theorem e3 (k : Nat) : u3 k = t3 := by kernel_rfl
theorem g3 (k : Nat) : l3 k = u3 k := funext fun _ => funext fun _ => cut_u _ _ _
def p3 (k : Nat) : T3 := t3
theorem o3 (k : Nat) : l3 k = p3 k := (Eq.trans (b := u3 k) (g3 k) (Eq.trans (b := t3) (e3 k) (by kernel_rfl)))
def t1 (f2 : T2) (f3 : T3) : T1 := fun (x8 : List (List (Int))) (x9 x10 : Int) (m2 m3 : List (Int)) => 
  (iteB (decide (x10 < x9)) (withinR x10 (List.length x8) fun q1 => (f2 x8 x9 x10 (List.getD x8 q1 (List.replicate 4 (0 : Int))) (0 : Int) m2 m3)) (f3 m2 m3))
theorem e1 (k n1 : Nat) : u1 k (n1 + 1) = t1 (l2 k n1 k) (l3 k) := by kernel_rfl
theorem g1 (k n1 : Nat) : l1 k (n1 + 1) = u1 k (n1 + 1) := funext fun _ => funext fun _ => funext fun _ => funext fun _ => funext fun _ => cut_u _ _ _
theorem d1 {x2 y2 : T2} {x3 y3 : T3} (h2 : x2 = y2) (h3 : x3 = y3) : t1 x2 x3 = t1 y2 y3 := by subst h2; subst h3; rfl
def p1 (k : Nat) : Nat → T1
  | 0 => fun _ _ _ _ _ => none
  | n1 + 1 => t1 (p2 k (p1 k n1) k) (p3 k)
theorem o1 (k : Nat) : ∀ n1, l1 k n1 = p1 k n1 := by
  intro n1
  induction n1 with
  | zero => kernel_rfl
  | succ n1 ih => exact (Eq.trans (b := u1 k (n1 + 1)) (g1 k n1) (Eq.trans (b := t1 (l2 k n1 k) (l3 k)) (e1 k n1) (Eq.trans (b := t1 (p2 k (p1 k n1) k) (p3 k)) (d1 (o2 k n1 (p1 k n1) ih k) (o3 k)) (by kernel_rfl))))
def t0 (f1 : T1) : T0 := fun (x0 : List (List (Int))) => 
  (f1 x0 ((List.length x0 : Nat) : Int) (0 : Int) (List.replicate 4 (0 : Int)) (List.replicate 4 (0 : Int)))
theorem e0 (k : Nat) : u0 k = t0 (l1 k k) := by kernel_rfl
theorem d0 {x1 y1 : T1} (h1 : x1 = y1) : t0 x1 = t0 y1 := by subst h1; rfl
def p0 (k : Nat) : T0 := t0 (p1 k k)
theorem o0 (k : Nat) : u0 k = p0 k := (Eq.trans (b := t0 (l1 k k)) (e0 k) (Eq.trans (b := t0 (p1 k k)) (d0 (o1 k k)) (by kernel_rfl)))
end bytesets_Or
def s_bytesets_Or (a : (List (List (Int))) × (Unit)) : Option ((List (Int)) × (Unit)) := bytesets_Or.p0 (fuel) a.1
noncomputable def F_bytesets_Or : FSpec cx.toNm := { ps := [.val (.slice 25 (.agg (.arr 4 (.int .u64))))], nres := 1, rt := (.agg (.arr 4 (.int .u64))), rm := .ro, f := s_bytesets_Or }
theorem w_bytesets_Or (a : (List (List (Int))) × (Unit)) : runOf (S := cx) bytesets_Or.E bytesets_Or.h (fuel) Try.f8 F_bytesets_Or.ps F_bytesets_Or.rt F_bytesets_Or.rm a = F_bytesets_Or.f a := Eq.trans (b := bytesets_Or.u0 (fuel) a.1) (by kernel_rfl) (Eq.trans (b := bytesets_Or.p0 (fuel) a.1) (congrFun (bytesets_Or.o0 (fuel)) a.1) (by kernel_rfl))
theorem ok_bytesets_Or : FnOk Try.prog F_bytesets_Or 8 := fn_of (hn := bytesets_Or.h) (E := bytesets_Or.E) cxOk (tysT _) fs_nil follows Try.func8 (by kernel_rfl) (fun a r h => ⟨fuel, Eq.trans (w_bytesets_Or a) h⟩)
namespace bytesets_And
noncomputable def E : Env cx := { tys := tys, fs := fsOf [(8, F_bytesets_Or), (10, F_bytesets_Not)] }
abbrev R := Option ((List (Int)) × (Unit))
abbrev C := Exit → ST cx → R
noncomputable def b : Code := bodyC Try.f9
noncomputable def h : Hint := { vs := [0, 1, 2, 3, 4], nil := [], cuts := [], ret := ([4], [2, 3, 4]), ords := [(1, [0, 2, 1, 3, 4, 5, 6, 7])] }
noncomputable def K0 : C := fin (S := cx) E Try.f9.results.toList (.agg (.arr 4 (.int .u64))) .ro [] []
noncomputable def c0 : Code := subC b [1]
noncomputable def K1 (k : Nat) : C := outD h c0 K0
noncomputable def K2 (k : Nat) : C := seqC E h k c0 K0
noncomputable def c1 : Code := subC b [1, 1]
noncomputable def K3 (k : Nat) : C := outD h c1 (K1 k)
noncomputable def K4 (k : Nat) : C := seqC E h k c1 (K1 k)
abbrev T0 := (List (Int)) → (List (Int)) → R
noncomputable def u0 (k : Nat) : T0 := fun (x0 x1 : List (Int)) => runOf (S := cx) E h k Try.f9 [.val (.agg (.arr 4 (.int .u64))), .val (.agg (.arr 4 (.int .u64)))] (.agg (.arr 4 (.int .u64))) .ro (x0, x1, ())
def t0 : T0 := fun (x0 x1 : List (Int)) => 
  (bindR (s_bytesets_Not (x0, ())) fun r1 => (bindR (s_bytesets_Not (x1, ())) fun r2 => (bindR (s_bytesets_Or (([r1.1, r2.1] : List (List (Int))), ())) fun r3 => (bindR (s_bytesets_Not (r3.1, ())) fun r4 => (some (r4.1, ()))))))
theorem e0 (k : Nat) : u0 k = t0 := by kernel_rfl
def p0 (k : Nat) : T0 := t0
theorem o0 (k : Nat) : u0 k = p0 k := (Eq.trans (b := t0) (e0 k) (by kernel_rfl))
end bytesets_And
def s_bytesets_And (a : (List (Int)) × ((List (Int)) × (Unit))) : Option ((List (Int)) × (Unit)) := bytesets_And.p0 (fuel) a.1 a.2.1
noncomputable def F_bytesets_And : FSpec cx.toNm := { ps := [.val (.agg (.arr 4 (.int .u64))), .val (.agg (.arr 4 (.int .u64)))], nres := 1, rt := (.agg (.arr 4 (.int .u64))), rm := .ro, f := s_bytesets_And }
theorem w_bytesets_And (a : (List (Int)) × ((List (Int)) × (Unit))) : runOf (S := cx) bytesets_And.E bytesets_And.h (fuel) Try.f9 F_bytesets_And.ps F_bytesets_And.rt F_bytesets_And.rm a = F_bytesets_And.f a := Eq.trans (b := bytesets_And.u0 (fuel) a.1 a.2.1) (by kernel_rfl) (Eq.trans (b := bytesets_And.p0 (fuel) a.1 a.2.1) (congrFun (congrFun (bytesets_And.o0 (fuel)) a.1) a.2.1) (by kernel_rfl))
theorem ok_bytesets_And : FnOk Try.prog F_bytesets_And 9 := fn_of (hn := bytesets_And.h) (E := bytesets_And.E) cxOk (tysT _) (fs_cons ok_bytesets_Or (fs_cons ok_bytesets_Not fs_nil)) follows Try.func9 (by kernel_rfl) (fun a r h => ⟨fuel, Eq.trans (w_bytesets_And a) h⟩)
namespace bytesets_Less
noncomputable def E : Env cx := { tys := tys, fs := fsOf [(9, F_bytesets_And), (10, F_bytesets_Not)] }
abbrev R := Option ((List (Int)) × (Unit))
abbrev C := Exit → ST cx → R
noncomputable def b : Code := bodyC Try.f11
noncomputable def h : Hint := { vs := [0, 1, 2, 3, 4], nil := [], cuts := [], ret := ([4], [2, 3, 4]), ords := [] }
noncomputable def K0 : C := fin (S := cx) E Try.f11.results.toList (.agg (.arr 4 (.int .u64))) .ro [] []
noncomputable def c0 : Code := subC b [1]
noncomputable def K1 (k : Nat) : C := outD h c0 K0
noncomputable def K2 (k : Nat) : C := seqC E h k c0 K0
noncomputable def c1 : Code := subC b [1, 1]
noncomputable def K3 (k : Nat) : C := outD h c1 (K1 k)
noncomputable def K4 (k : Nat) : C := seqC E h k c1 (K1 k)
abbrev T0 := (List (Int)) → (List (Int)) → R
noncomputable def u0 (k : Nat) : T0 := fun (x0 x1 : List (Int)) => runOf (S := cx) E h k Try.f11 [.val (.agg (.arr 4 (.int .u64))), .val (.agg (.arr 4 (.int .u64)))] (.agg (.arr 4 (.int .u64))) .ro (x0, x1, ())
def t0 : T0 := fun (x0 x1 : List (Int)) => 
  (bindR (s_bytesets_Not (x1, ())) fun r1 => (bindR (s_bytesets_And (x0, (r1.1, ()))) fun r2 => (some (r2.1, ()))))
theorem e0 (k : Nat) : u0 k = t0 := by kernel_rfl
def p0 (k : Nat) : T0 := t0
theorem o0 (k : Nat) : u0 k = p0 k := (Eq.trans (b := t0) (e0 k) (by kernel_rfl))
end bytesets_Less
def s_bytesets_Less (a : (List (Int)) × ((List (Int)) × (Unit))) : Option ((List (Int)) × (Unit)) := bytesets_Less.p0 (fuel) a.1 a.2.1
noncomputable def F_bytesets_Less : FSpec cx.toNm := { ps := [.val (.agg (.arr 4 (.int .u64))), .val (.agg (.arr 4 (.int .u64)))], nres := 1, rt := (.agg (.arr 4 (.int .u64))), rm := .ro, f := s_bytesets_Less }
theorem w_bytesets_Less (a : (List (Int)) × ((List (Int)) × (Unit))) : runOf (S := cx) bytesets_Less.E bytesets_Less.h (fuel) Try.f11 F_bytesets_Less.ps F_bytesets_Less.rt F_bytesets_Less.rm a = F_bytesets_Less.f a := Eq.trans (b := bytesets_Less.u0 (fuel) a.1 a.2.1) (by kernel_rfl) (Eq.trans (b := bytesets_Less.p0 (fuel) a.1 a.2.1) (congrFun (congrFun (bytesets_Less.o0 (fuel)) a.1) a.2.1) (by kernel_rfl))
theorem ok_bytesets_Less : FnOk Try.prog F_bytesets_Less 11 := fn_of (hn := bytesets_Less.h) (E := bytesets_Less.E) cxOk (tysT _) (fs_cons ok_bytesets_And (fs_cons ok_bytesets_Not fs_nil)) follows Try.func11 (by kernel_rfl) (fun a r h => ⟨fuel, Eq.trans (w_bytesets_Less a) h⟩)
namespace bytesets_split
noncomputable def E : Env cx := { tys := tys, fs := fsOf [(9, F_bytesets_And), (11, F_bytesets_Less)] }
abbrev R := Option ((List (List (Int))) × (Unit))
abbrev C := Exit → ST cx → R
noncomputable def b : Code := bodyC Try.f20
noncomputable def h : Hint := { vs := [0, 1, 3, 4, 5, 7, 9, 10, 11, 12, 22, 23], nil := [(5, (.own .ro))], cuts := [(3, ([3, 5, 10, 11, 12], [3]), ([5], [])), (6, ([3, 5, 10, 11, 12, 22, 23], [3]), ([3, 5, 10, 11, 12], [3])), (10, ([3, 5, 10, 11, 12, 22, 23], [3]), ([3, 5, 10, 11, 12, 22, 23], [3])), (11, ([3, 5, 10, 11, 12], [3]), ([3, 5, 10, 11, 12], [3])), (12, ([5], []), ([5], []))], ret := ([4], [3, 7, 9]), ords := [(5, [0, 1, 3, 4, 7, 2, 5, 6])] }
noncomputable def K0 : C := fin (S := cx) E Try.f20.results.toList (.slice 25 (.agg (.arr 4 (.int .u64)))) .ro [] []
noncomputable def c0 : Code := subC b [1]
noncomputable def K1 (k : Nat) : C := outD h c0 K0
noncomputable def K2 (k : Nat) : C := seqC E h k c0 K0
noncomputable def c1 : Code := subC b [1, 1]
noncomputable def K3 (k : Nat) : C := outD h c1 (K1 k)
noncomputable def K4 (k : Nat) : C := seqC E h k c1 (K1 k)
noncomputable def c2 : Code := subC b [1, 1, 1]
noncomputable def K5 (k : Nat) : C := outD h c2 (K3 k)
noncomputable def K6 (k : Nat) : C := seqC E h k c2 (K3 k)
noncomputable def c3 : Code := subC b [1, 1, 0, 1]
noncomputable def K7 (k : Nat) : C := outD h c3 (K6 k)
noncomputable def K8 (k : Nat) : C := seqC E h k c3 (K6 k)
noncomputable def K9 (k : Nat) : C := blockK 0 (K7 k)
noncomputable def c4 : Code := subC b [1, 1, 0, 1, 0, 0]
noncomputable def K10 (k n1 : Nat) : C := loopD E h k c4 (K9 k) n1
noncomputable def c5 : Code := subC b [1, 1, 0, 1, 0, 0, 1]
noncomputable def K11 (k n1 : Nat) : C := outD h c5 (K10 k n1)
noncomputable def K12 (k n1 : Nat) : C := seqC E h k c5 (K10 k n1)
noncomputable def c6 : Code := subC b [1, 1, 0, 1, 0, 0, 1, 1]
noncomputable def K13 (k n1 : Nat) : C := outD h c6 (K11 k n1)
noncomputable def K14 (k n1 : Nat) : C := seqC E h k c6 (K11 k n1)
noncomputable def c7 : Code := subC b [1, 1, 0, 1, 0, 0, 1, 1, 1]
noncomputable def K15 (k n1 : Nat) : C := outD h c7 (K13 k n1)
noncomputable def K16 (k n1 : Nat) : C := seqC E h k c7 (K13 k n1)
noncomputable def K17 (k n1 : Nat) : C := blockK 1 (K16 k n1)
noncomputable def c8 : Code := subC b [1, 1, 0, 1, 0, 0, 1, 1, 0, 0, 1]
noncomputable def K18 (k n1 : Nat) : C := outD h c8 (K17 k n1)
noncomputable def K19 (k n1 : Nat) : C := seqC E h k c8 (K17 k n1)
noncomputable def c9 : Code := subC b [1, 1, 0, 1, 0, 0, 1, 1, 0, 0, 1, 1]
noncomputable def K20 (k n1 : Nat) : C := outD h c9 (K18 k n1)
noncomputable def K21 (k n1 : Nat) : C := seqC E h k c9 (K18 k n1)
noncomputable def K22 (k n1 : Nat) : C := blockK 2 (K20 k n1)
noncomputable def c10 : Code := subC b [1, 1, 0, 1, 0, 0, 1, 1, 0, 0, 1, 1, 0, 0]
noncomputable def K23 (k n1 n2 : Nat) : C := loopD E h k c10 (K22 k n1) n2
noncomputable def c11 : Code := subC b [1, 1, 0, 1, 0, 0, 1, 1, 0, 0, 1, 1, 0, 0, 1]
noncomputable def K24 (k n1 n2 : Nat) : C := outD h c11 (K23 k n1 n2)
noncomputable def K25 (k n1 n2 : Nat) : C := seqC E h k c11 (K23 k n1 n2)
noncomputable def c12 : Code := subC b [1, 1, 0, 1, 0, 0, 1, 1, 0, 0, 1, 1, 0, 0, 1, 1]
noncomputable def K26 (k n1 n2 : Nat) : C := outD h c12 (K24 k n1 n2)
noncomputable def K27 (k n1 n2 : Nat) : C := seqC E h k c12 (K24 k n1 n2)
noncomputable def c13 : Code := subC b [1, 1, 0, 1, 0, 0, 1, 1, 0, 0, 1, 1, 0, 0, 1, 1, 1]
noncomputable def K28 (k n1 n2 : Nat) : C := outD h c13 (K26 k n1 n2)
noncomputable def K29 (k n1 n2 : Nat) : C := seqC E h k c13 (K26 k n1 n2)
noncomputable def K30 (k n1 n2 : Nat) : C := blockK 3 (K29 k n1 n2)
noncomputable def c14 : Code := subC b [1, 1, 0, 1, 0, 0, 1, 1, 0, 0, 1, 1, 0, 0, 1, 1, 0, 0, 1]
noncomputable def K31 (k n1 n2 : Nat) : C := outD h c14 (K30 k n1 n2)
noncomputable def K32 (k n1 n2 : Nat) : C := seqC E h k c14 (K30 k n1 n2)
noncomputable def c15 : Code := subC b [1, 1, 0, 1, 0, 0, 1, 1, 0, 0, 1, 1, 0, 0, 1, 1, 0, 0, 1, 1]
noncomputable def K33 (k n1 n2 : Nat) : C := outD h c15 (K31 k n1 n2)
noncomputable def K34 (k n1 n2 : Nat) : C := seqC E h k c15 (K31 k n1 n2)
noncomputable def c16 : Code := subC b [1, 1, 1, 1]
noncomputable def K35 (k : Nat) : C := outD h c16 (K5 k)
noncomputable def K36 (k : Nat) : C := seqC E h k c16 (K5 k)
abbrev T4 := (List (List (Int))) → (List (List (Int))) → Int → Int → (List (List (Int))) → Int → (List (Int)) → R
abbrev T5 := (List (List (Int))) → (List (List (Int))) → Int → Int → (List (Int)) → R
abbrev T2 := (List (List (Int))) → (List (List (Int))) → Int → Int → (List (List (Int))) → Int → (List (Int)) → R
abbrev T3 := (List (List (Int))) → R
abbrev T1 := (List (List (Int))) → (List (List (Int))) → Int → Int → (List (Int)) → R
abbrev T0 := (List (List (Int))) → (List (Int)) → R
abbrev s4 : (List (List (Int))) → (List (List (Int))) → Int → Int → (List (List (Int))) → Int → (List (Int)) → ST cx := fun (x5 x10 : List (List (Int))) (x11 x12 : Int) (x22 : List (List (Int))) (x23 : Int) (m3 : List (Int)) => ({ vars := [(3, .addr (.mem 3) []), (5, .v (.slice 25 (.agg (.arr 4 (.int .u64)))) (.own .ro) x5), (10, .v (.slice 25 (.agg (.arr 4 (.int .u64)))) .ro x10), (11, .v (.int .i64) .ro x11), (12, .v (.int .i64) .ro x12), (22, .v (.agg (.arr 2 (.agg (.arr 4 (.int .u64))))) .ro x22), (23, .v (.int .i64) .ro x23)], scr := [], mems := [(3, ⟨(.agg (.arr 4 (.int .u64))), .ro, m3⟩)] } : ST cx)
noncomputable def u4 (k n1 n2 : Nat) : T4 := fun (x5 x10 : List (List (Int))) (x11 x12 : Int) (x22 : List (List (Int))) (x23 : Int) (m3 : List (Int)) => uK (run E h k c13) (s4 x5 x10 x11 x12 x22 x23 m3) (K28 k n1 n2)
noncomputable abbrev l4 (k n1 n2 : Nat) : T4 := fun (x5 x10 : List (List (Int))) (x11 x12 : Int) (x22 : List (List (Int))) (x23 : Int) (m3 : List (Int)) => cutK (run E h k c13) (s4 x5 x10 x11 x12 x22 x23 m3) (K28 k n1 n2)
abbrev s5 : (List (List (Int))) → (List (List (Int))) → Int → Int → (List (Int)) → ST cx := fun (x5 x10 : List (List (Int))) (x11 x12 : Int) (m3 : List (Int)) => ({ vars := [(3, .addr (.mem 3) []), (5, .v (.slice 25 (.agg (.arr 4 (.int .u64)))) (.own .ro) x5), (10, .v (.slice 25 (.agg (.arr 4 (.int .u64)))) .ro x10), (11, .v (.int .i64) .ro x11), (12, .v (.int .i64) .ro x12)], scr := [], mems := [(3, ⟨(.agg (.arr 4 (.int .u64))), .ro, m3⟩)] } : ST cx)
noncomputable def u5 (k n1 : Nat) : T5 := fun (x5 x10 : List (List (Int))) (x11 x12 : Int) (m3 : List (Int)) => uK (run E h k c7) (s5 x5 x10 x11 x12 m3) (K15 k n1)
noncomputable abbrev l5 (k n1 : Nat) : T5 := fun (x5 x10 : List (List (Int))) (x11 x12 : Int) (m3 : List (Int)) => cutK (run E h k c7) (s5 x5 x10 x11 x12 m3) (K15 k n1)
abbrev s2 : (List (List (Int))) → (List (List (Int))) → Int → Int → (List (List (Int))) → Int → (List (Int)) → ST cx := fun (x5 x10 : List (List (Int))) (x11 x12 : Int) (x22 : List (List (Int))) (x23 : Int) (m3 : List (Int)) => ({ vars := [(3, .addr (.mem 3) []), (5, .v (.slice 25 (.agg (.arr 4 (.int .u64)))) (.own .ro) x5), (10, .v (.slice 25 (.agg (.arr 4 (.int .u64)))) .ro x10), (11, .v (.int .i64) .ro x11), (12, .v (.int .i64) .ro x12), (22, .v (.agg (.arr 2 (.agg (.arr 4 (.int .u64))))) .ro x22), (23, .v (.int .i64) .ro x23)], scr := [], mems := [(3, ⟨(.agg (.arr 4 (.int .u64))), .ro, m3⟩)] } : ST cx)
noncomputable def u2 (k n1 n2 : Nat) : T2 := fun (x5 x10 : List (List (Int))) (x11 x12 : Int) (x22 : List (List (Int))) (x23 : Int) (m3 : List (Int)) => uK (loopL E h k c10 (K22 k n1) n2) (s2 x5 x10 x11 x12 x22 x23 m3) ()
noncomputable abbrev l2 (k n1 n2 : Nat) : T2 := fun (x5 x10 : List (List (Int))) (x11 x12 : Int) (x22 : List (List (Int))) (x23 : Int) (m3 : List (Int)) => cutK (loopL E h k c10 (K22 k n1) n2) (s2 x5 x10 x11 x12 x22 x23 m3) ()
abbrev s3 : (List (List (Int))) → ST cx := fun (x5 : List (List (Int))) => ({ vars := [(5, .v (.slice 25 (.agg (.arr 4 (.int .u64)))) (.own .ro) x5)], scr := [], mems := [] } : ST cx)
noncomputable def u3 (k : Nat) : T3 := fun (x5 : List (List (Int))) => uK (run E h k c2) (s3 x5) (K5 k)
noncomputable abbrev l3 (k : Nat) : T3 := fun (x5 : List (List (Int))) => cutK (run E h k c2) (s3 x5) (K5 k)
abbrev s1 : (List (List (Int))) → (List (List (Int))) → Int → Int → (List (Int)) → ST cx := fun (x5 x10 : List (List (Int))) (x11 x12 : Int) (m3 : List (Int)) => ({ vars := [(3, .addr (.mem 3) []), (5, .v (.slice 25 (.agg (.arr 4 (.int .u64)))) (.own .ro) x5), (10, .v (.slice 25 (.agg (.arr 4 (.int .u64)))) .ro x10), (11, .v (.int .i64) .ro x11), (12, .v (.int .i64) .ro x12)], scr := [], mems := [(3, ⟨(.agg (.arr 4 (.int .u64))), .ro, m3⟩)] } : ST cx)
noncomputable def u1 (k n1 : Nat) : T1 := fun (x5 x10 : List (List (Int))) (x11 x12 : Int) (m3 : List (Int)) => uK (loopL E h k c4 (K9 k) n1) (s1 x5 x10 x11 x12 m3) ()
noncomputable abbrev l1 (k n1 : Nat) : T1 := fun (x5 x10 : List (List (Int))) (x11 x12 : Int) (m3 : List (Int)) => cutK (loopL E h k c4 (K9 k) n1) (s1 x5 x10 x11 x12 m3) ()
noncomputable def u0 (k : Nat) : T0 := fun (x0 : List (List (Int))) (x1 : List (Int)) => runOf (S := cx) E h k Try.f20 [.val (.slice 25 (.agg (.arr 4 (.int .u64)))), .val (.agg (.arr 4 (.int .u64)))] (.slice 25 (.agg (.arr 4 (.int .u64)))) .ro (x0, x1, ())
def t4 (f2 : T2) : T4 := fun (x5 x10 : List (List (Int))) (x11 x12 : Int) (x22 : List (List (Int))) (x23 : Int) (m3 : List (Int)) => 
  (f2 x5 x10 x11 x12 x22 (w64 (x23 + (1 : Int))) m3)
theorem e4 (k n1 n2 : Nat) : u4 k n1 n2 = t4 (l2 k n1 n2) := by kernel_rfl
theorem g4 (k n1 n2 : Nat) : l4 k n1 n2 = u4 k n1 n2 := funext fun _ => funext fun _ => funext fun _ => funext fun _ => funext fun _ => funext fun _ => funext fun _ => cut_u _ _ _
theorem d4 {x2 y2 : T2} (h2 : x2 = y2) : t4 x2 = t4 y2 := by subst h2; rfl
def p4 (k : Nat) (a1 : T1) (a2 : T2) : T4 := t4 a2
theorem o4 (k n1 n2 : Nat) (a1 : T1) (a2 : T2) (h1 : l1 k n1 = a1) (h2 : l2 k n1 n2 = a2) : l4 k n1 n2 = p4 k a1 a2 := (Eq.trans (b := u4 k n1 n2) (g4 k n1 n2) (Eq.trans (b := t4 (l2 k n1 n2)) (e4 k n1 n2) (Eq.trans (b := t4 a2) (d4 h2) (by kernel_rfl))))
def t5 (f1 : T1) : T5 := fun (x5 x10 : List (List (Int))) (x11 x12 : Int) (m3 : List (Int)) => 
  (f1 x5 x10 x11 (w64 (x12 + (1 : Int))) m3)
theorem e5 (k n1 : Nat) : u5 k n1 = t5 (l1 k n1) := by kernel_rfl
theorem g5 (k n1 : Nat) : l5 k n1 = u5 k n1 := funext fun _ => funext fun _ => funext fun _ => funext fun _ => funext fun _ => cut_u _ _ _
theorem d5 {x1 y1 : T1} (h1 : x1 = y1) : t5 x1 = t5 y1 := by subst h1; rfl
def p5 (k : Nat) (a1 : T1) : T5 := t5 a1
theorem o5 (k n1 : Nat) (a1 : T1) (h1 : l1 k n1 = a1) : l5 k n1 = p5 k a1 := (Eq.trans (b := u5 k n1) (g5 k n1) (Eq.trans (b := t5 (l1 k n1)) (e5 k n1) (Eq.trans (b := t5 a1) (d5 h1) (by kernel_rfl))))
def t2 (f4 : T4) (f5 : T5) : T2 := fun (x5 x10 : List (List (Int))) (x11 x12 : Int) (x22 : List (List (Int))) (x23 : Int) (m3 : List (Int)) => 
  (iteB (decide (x23 < (2 : Int))) (withinR x23 2 fun q4 => (iteB (!(decide ((List.getD x22 q4 (List.replicate 4 (0 : Int))) = (List.replicate 4 (0 : Int))))) (mustR (room x5 ([(List.getD x22 q4 (List.replicate 4 (0 : Int)))] : List (List (Int)))) (f4 (x5 ++ ([(List.getD x22 q4 (List.replicate 4 (0 : Int)))] : List (List (Int)))) x10 x11 x12 x22 x23 m3)) (f4 x5 x10 x11 x12 x22 x23 m3))) (f5 x5 x10 x11 x12 m3))
theorem e2 (k n1 n2 : Nat) : u2 k n1 (n2 + 1) = t2 (l4 k n1 n2) (l5 k n1) := by kernel_rfl
theorem g2 (k n1 n2 : Nat) : l2 k n1 (n2 + 1) = u2 k n1 (n2 + 1) := funext fun _ => funext fun _ => funext fun _ => funext fun _ => funext fun _ => funext fun _ => funext fun _ => cut_u _ _ _
theorem d2 {x4 y4 : T4} {x5 y5 : T5} (h4 : x4 = y4) (h5 : x5 = y5) : t2 x4 x5 = t2 y4 y5 := by subst h4; subst h5; rfl
def p2 (k : Nat) (a1 : T1) : Nat → T2
  | 0 => fun _ _ _ _ _ _ _ => none
  | n2 + 1 => t2 (p4 k a1 (p2 k a1 n2)) (p5 k a1)
theorem o2 (k n1 : Nat) (a1 : T1) (h1 : l1 k n1 = a1) : ∀ n2, l2 k n1 n2 = p2 k a1 n2 := by
  intro n2
  induction n2 with
  | zero => kernel_rfl
  | succ n2 ih => exact (Eq.trans (b := u2 k n1 (n2 + 1)) (g2 k n1 n2) (Eq.trans (b := t2 (l4 k n1 n2) (l5 k n1)) (e2 k n1 n2) (Eq.trans (b := t2 (p4 k a1 (p2 k a1 n2)) (p5 k a1)) (d2 (o4 k n1 n2 a1 (p2 k a1 n2) h1 ih) (o5 k n1 a1 h1)) (by kernel_rfl))))
def t3 : T3 := fun (x5 : List (List (Int))) => 
  (some (x5, ()))
theorem e3 (k : Nat) : u3 k = t3 := by kernel_rfl
theorem g3 (k : Nat) : l3 k = u3 k := funext fun _ => cut_u _ _ _
def p3 (k : Nat) : T3 := t3
theorem o3 (k : Nat) : l3 k = p3 k := (Eq.trans (b := u3 k) (g3 k) (Eq.trans (b := t3) (e3 k) (by kernel_rfl)))
def t1 (f2 : T2) (f3 : T3) : T1 := fun (x5 x10 : List (List (Int))) (x11 x12 : Int) (m3 : List (Int)) => 
  (iteB (decide (x12 < x11)) (withinR x12 (List.length x10) fun q1 => (bindR (s_bytesets_And ((List.getD x10 q1 (List.replicate 4 (0 : Int))), (m3, ()))) fun r2 => (bindR (s_bytesets_Less ((List.getD x10 q1 (List.replicate 4 (0 : Int))), (m3, ()))) fun r3 => (f2 x5 x10 x11 x12 (List.set (List.set (List.replicate 2 (List.replicate 4 (0 : Int))) 0 r2.1) 1 r3.1) (0 : Int) m3)))) (f3 x5))
theorem e1 (k n1 : Nat) : u1 k (n1 + 1) = t1 (l2 k n1 k) (l3 k) := by kernel_rfl
theorem g1 (k n1 : Nat) : l1 k (n1 + 1) = u1 k (n1 + 1) := funext fun _ => funext fun _ => funext fun _ => funext fun _ => funext fun _ => cut_u _ _ _
theorem d1 {x2 y2 : T2} {x3 y3 : T3} (h2 : x2 = y2) (h3 : x3 = y3) : t1 x2 x3 = t1 y2 y3 := by subst h2; subst h3; rfl
def p1 (k : Nat) : Nat → T1
  | 0 => fun _ _ _ _ _ => none
  | n1 + 1 => t1 (p2 k (p1 k n1) k) (p3 k)
theorem o1 (k : Nat) : ∀ n1, l1 k n1 = p1 k n1 := by
  intro n1
  induction n1 with
  | zero => kernel_rfl
  | succ n1 ih => exact (Eq.trans (b := u1 k (n1 + 1)) (g1 k n1) (Eq.trans (b := t1 (l2 k n1 k) (l3 k)) (e1 k n1) (Eq.trans (b := t1 (p2 k (p1 k n1) k) (p3 k)) (d1 (o2 k n1 (p1 k n1) ih k) (o3 k)) (by kernel_rfl))))
def t0 (f1 : T1) : T0 := fun (x0 : List (List (Int))) (x1 : List (Int)) => 
  (f1 ([] : List (List (Int))) x0 ((List.length x0 : Nat) : Int) (0 : Int) x1)
theorem e0 (k : Nat) : u0 k = t0 (l1 k k) := by kernel_rfl
theorem d0 {x1 y1 : T1} (h1 : x1 = y1) : t0 x1 = t0 y1 := by subst h1; rfl
def p0 (k : Nat) : T0 := t0 (p1 k k)
theorem o0 (k : Nat) : u0 k = p0 k := (Eq.trans (b := t0 (l1 k k)) (e0 k) (Eq.trans (b := t0 (p1 k k)) (d0 (o1 k k)) (by kernel_rfl)))
end bytesets_split
def s_bytesets_split (a : (List (List (Int))) × ((List (Int)) × (Unit))) : Option ((List (List (Int))) × (Unit)) := bytesets_split.p0 (fuel) a.1 a.2.1
noncomputable def F_bytesets_split : FSpec cx.toNm := { ps := [.val (.slice 25 (.agg (.arr 4 (.int .u64)))), .val (.agg (.arr 4 (.int .u64)))], nres := 1, rt := (.slice 25 (.agg (.arr 4 (.int .u64)))), rm := .ro, f := s_bytesets_split }
theorem w_bytesets_split (a : (List (List (Int))) × ((List (Int)) × (Unit))) : runOf (S := cx) bytesets_split.E bytesets_split.h (fuel) Try.f20 F_bytesets_split.ps F_bytesets_split.rt F_bytesets_split.rm a = F_bytesets_split.f a := Eq.trans (b := bytesets_split.u0 (fuel) a.1 a.2.1) (by kernel_rfl) (Eq.trans (b := bytesets_split.p0 (fuel) a.1 a.2.1) (congrFun (congrFun (bytesets_split.o0 (fuel)) a.1) a.2.1) (by kernel_rfl))
theorem ok_bytesets_split : FnOk Try.prog F_bytesets_split 20 := fn_of (hn := bytesets_split.h) (E := bytesets_split.E) cxOk (tysT _) (fs_cons ok_bytesets_And (fs_cons ok_bytesets_Less fs_nil)) follows Try.func20 (by kernel_rfl) (fun a r h => ⟨fuel, Eq.trans (w_bytesets_split a) h⟩)
namespace bytesets_Has
noncomputable def E : Env cx := { tys := tys, fs := fsOf [] }
abbrev R := Option ((Bool) × (Unit))
abbrev C := Exit → ST cx → R
noncomputable def b : Code := bodyC Try.f21
noncomputable def h : Hint := { vs := [0, 1, 2, 4], nil := [], cuts := [], ret := ([4], [2]), ords := [] }
noncomputable def K0 : C := fin (S := cx) E Try.f21.results.toList .bool .ro [] []
noncomputable def c0 : Code := subC b [1]
noncomputable def K1 (k : Nat) : C := outD h c0 K0
noncomputable def K2 (k : Nat) : C := seqC E h k c0 K0
noncomputable def c1 : Code := subC b [1, 1]
noncomputable def K3 (k : Nat) : C := outD h c1 (K1 k)
noncomputable def K4 (k : Nat) : C := seqC E h k c1 (K1 k)
abbrev T0 := (List (Int)) → Int → R
noncomputable def u0 (k : Nat) : T0 := fun (x0 : List (Int)) (x1 : Int) => runOf (S := cx) E h k Try.f21 [.val (.agg (.arr 4 (.int .u64))), .val (.int .u8)] .bool .ro (x0, x1, ())
def t0 : T0 := fun (x0 : List (Int)) (x1 : Int) => 
  (withinR (w8 (Int.tdiv x1 (64 : Int))) 4 fun q1 => (mustR (decide (0 ≤ (Int.tmod x1 (64 : Int)))) (some ((decide ((bitI .and .u64 (shrI .u64 (List.getD x0 q1 (0 : Int)) (Int.tmod x1 (64 : Int))) (1 : Int)) = (1 : Int))), ()))))
theorem e0 (k : Nat) : u0 k = t0 := by kernel_rfl
def p0 (k : Nat) : T0 := t0
theorem o0 (k : Nat) : u0 k = p0 k := (Eq.trans (b := t0) (e0 k) (by kernel_rfl))
end bytesets_Has
def s_bytesets_Has (a : (List (Int)) × ((Int) × (Unit))) : Option ((Bool) × (Unit)) := bytesets_Has.p0 (fuel) a.1 a.2.1
noncomputable def F_bytesets_Has : FSpec cx.toNm := { ps := [.val (.agg (.arr 4 (.int .u64))), .val (.int .u8)], nres := 1, rt := .bool, rm := .ro, f := s_bytesets_Has }
theorem w_bytesets_Has (a : (List (Int)) × ((Int) × (Unit))) : runOf (S := cx) bytesets_Has.E bytesets_Has.h (fuel) Try.f21 F_bytesets_Has.ps F_bytesets_Has.rt F_bytesets_Has.rm a = F_bytesets_Has.f a := Eq.trans (b := bytesets_Has.u0 (fuel) a.1 a.2.1) (by kernel_rfl) (Eq.trans (b := bytesets_Has.p0 (fuel) a.1 a.2.1) (congrFun (congrFun (bytesets_Has.o0 (fuel)) a.1) a.2.1) (by kernel_rfl))
theorem ok_bytesets_Has : FnOk Try.prog F_bytesets_Has 21 := fn_of (hn := bytesets_Has.h) (E := bytesets_Has.E) cxOk (tysT _) fs_nil follows Try.func21 (by kernel_rfl) (fun a r h => ⟨fuel, Eq.trans (w_bytesets_Has a) h⟩)
namespace bytesets_Classes
noncomputable def E : Env cx := { tys := tys, fs := fsOf [(19, F_bytesets_All), (20, F_bytesets_split), (21, F_bytesets_Has)] }
abbrev R := Option (((List (Int)) × (Int)) × (Unit))
abbrev C := Exit → ST cx → R
noncomputable def b : Code := bodyC Try.f12
noncomputable def h : Hint := { vs := [0, 2, 3, 4, 6, 7, 8, 9, 11, 13, 16, 17, 18, 27, 30, 31, 32], nil := [(7, .ro), (8, (.pr .dd .dd))], cuts := [(3, ([2, 4, 16, 17, 18], [2]), ([2, 4], [2])), (7, ([2, 4], [2]), ([2, 4], [2])), (10, ([2, 4, 7, 8, 27], [2, 7]), ([2, 4, 7], [2, 7])), (13, ([2, 4, 7, 8, 9, 27, 30, 31, 32], [2, 7]), ([2, 4, 7, 8, 27], [2, 7])), (19, ([2, 4, 7, 8, 9, 11, 27, 30, 31, 32], [2, 7, 11]), ([2, 4, 7, 8, 9, 27, 30, 31, 32], [2, 7])), (20, ([2, 4, 7, 8, 9, 27, 30, 31, 32], [2, 7]), ([2, 4, 7, 8, 9, 27, 30, 31, 32], [2, 7])), (21, ([2, 4, 7, 8, 27], [2, 7]), ([2, 4, 7, 8, 27], [2, 7])), (22, ([2, 4, 7], [2, 7]), ([2, 4, 7], [2, 7]))], ret := ([2, 3], [2, 6, 7, 11]), ords := [] }
noncomputable def K0 : C := fin (S := cx) E Try.f12.results.toList (.pair (.agg (.arr 256 (.int .u8))) (.int .i64)) .ro [] []
noncomputable def c0 : Code := subC b [1]
noncomputable def K1 (k : Nat) : C := outD h c0 K0
noncomputable def K2 (k : Nat) : C := seqC E h k c0 K0
noncomputable def c1 : Code := subC b [1, 1]
noncomputable def K3 (k : Nat) : C := outD h c1 (K1 k)
noncomputable def K4 (k : Nat) : C := seqC E h k c1 (K1 k)
noncomputable def c2 : Code := subC b [1, 1, 1]
noncomputable def K5 (k : Nat) : C := outD h c2 (K3 k)
noncomputable def K6 (k : Nat) : C := seqC E h k c2 (K3 k)
noncomputable def c3 : Code := subC b [1, 1, 0, 1]
noncomputable def K7 (k : Nat) : C := outD h c3 (K6 k)
noncomputable def K8 (k : Nat) : C := seqC E h k c3 (K6 k)
noncomputable def K9 (k : Nat) : C := blockK 0 (K7 k)
noncomputable def c4 : Code := subC b [1, 1, 0, 1, 0, 0]
noncomputable def K10 (k n1 : Nat) : C := loopD E h k c4 (K9 k) n1
noncomputable def c5 : Code := subC b [1, 1, 0, 1, 0, 0, 1]
noncomputable def K11 (k n1 : Nat) : C := outD h c5 (K10 k n1)
noncomputable def K12 (k n1 : Nat) : C := seqC E h k c5 (K10 k n1)
noncomputable def c6 : Code := subC b [1, 1, 0, 1, 0, 0, 1, 1]
noncomputable def K13 (k n1 : Nat) : C := outD h c6 (K11 k n1)
noncomputable def K14 (k n1 : Nat) : C := seqC E h k c6 (K11 k n1)
noncomputable def c7 : Code := subC b [1, 1, 0, 1, 0, 0, 1, 1, 1]
noncomputable def K15 (k n1 : Nat) : C := outD h c7 (K13 k n1)
noncomputable def K16 (k n1 : Nat) : C := seqC E h k c7 (K13 k n1)
noncomputable def K17 (k n1 : Nat) : C := blockK 1 (K16 k n1)
noncomputable def c8 : Code := subC b [1, 1, 0, 1, 0, 0, 1, 1, 0, 0, 1]
noncomputable def K18 (k n1 : Nat) : C := outD h c8 (K17 k n1)
noncomputable def K19 (k n1 : Nat) : C := seqC E h k c8 (K17 k n1)
noncomputable def c9 : Code := subC b [1, 1, 1, 1]
noncomputable def K20 (k : Nat) : C := outD h c9 (K5 k)
noncomputable def K21 (k : Nat) : C := seqC E h k c9 (K5 k)
noncomputable def c10 : Code := subC b [1, 1, 1, 1, 1]
noncomputable def K22 (k : Nat) : C := outD h c10 (K20 k)
noncomputable def K23 (k : Nat) : C := seqC E h k c10 (K20 k)
noncomputable def c11 : Code := subC b [1, 1, 1, 1, 1, 1]
noncomputable def K24 (k : Nat) : C := outD h c11 (K22 k)
noncomputable def K25 (k : Nat) : C := seqC E h k c11 (K22 k)
noncomputable def c12 : Code := subC b [1, 1, 1, 1, 1, 0, 1]
noncomputable def K26 (k : Nat) : C := outD h c12 (K25 k)
noncomputable def K27 (k : Nat) : C := seqC E h k c12 (K25 k)
noncomputable def K28 (k : Nat) : C := blockK 2 (K26 k)
noncomputable def c13 : Code := subC b [1, 1, 1, 1, 1, 0, 1, 0, 0]
noncomputable def K29 (k n3 : Nat) : C := loopD E h k c13 (K28 k) n3
noncomputable def c14 : Code := subC b [1, 1, 1, 1, 1, 0, 1, 0, 0, 1]
noncomputable def K30 (k n3 : Nat) : C := outD h c14 (K29 k n3)
noncomputable def K31 (k n3 : Nat) : C := seqC E h k c14 (K29 k n3)
noncomputable def c15 : Code := subC b [1, 1, 1, 1, 1, 0, 1, 0, 0, 1, 1]
noncomputable def K32 (k n3 : Nat) : C := outD h c15 (K30 k n3)
noncomputable def K33 (k n3 : Nat) : C := seqC E h k c15 (K30 k n3)
noncomputable def c16 : Code := subC b [1, 1, 1, 1, 1, 0, 1, 0, 0, 1, 1, 1]
noncomputable def K34 (k n3 : Nat) : C := outD h c16 (K32 k n3)
noncomputable def K35 (k n3 : Nat) : C := seqC E h k c16 (K32 k n3)
noncomputable def K36 (k n3 : Nat) : C := blockK 3 (K35 k n3)
noncomputable def c17 : Code := subC b [1, 1, 1, 1, 1, 0, 1, 0, 0, 1, 1, 0, 0, 1]
noncomputable def K37 (k n3 : Nat) : C := outD h c17 (K36 k n3)
noncomputable def K38 (k n3 : Nat) : C := seqC E h k c17 (K36 k n3)
noncomputable def c18 : Code := subC b [1, 1, 1, 1, 1, 0, 1, 0, 0, 1, 1, 0, 0, 1, 1]
noncomputable def K39 (k n3 : Nat) : C := outD h c18 (K37 k n3)
noncomputable def K40 (k n3 : Nat) : C := seqC E h k c18 (K37 k n3)
noncomputable def K41 (k n3 : Nat) : C := blockK 4 (K39 k n3)
noncomputable def c19 : Code := subC b [1, 1, 1, 1, 1, 0, 1, 0, 0, 1, 1, 0, 0, 1, 1, 0, 0]
noncomputable def K42 (k n3 n4 : Nat) : C := loopD E h k c19 (K41 k n3) n4
noncomputable def c20 : Code := subC b [1, 1, 1, 1, 1, 0, 1, 0, 0, 1, 1, 0, 0, 1, 1, 0, 0, 1]
noncomputable def K43 (k n3 n4 : Nat) : C := outD h c20 (K42 k n3 n4)
noncomputable def K44 (k n3 n4 : Nat) : C := seqC E h k c20 (K42 k n3 n4)
noncomputable def c21 : Code := subC b [1, 1, 1, 1, 1, 0, 1, 0, 0, 1, 1, 0, 0, 1, 1, 0, 0, 1, 1]
noncomputable def K45 (k n3 n4 : Nat) : C := outD h c21 (K43 k n3 n4)
noncomputable def K46 (k n3 n4 : Nat) : C := seqC E h k c21 (K43 k n3 n4)
noncomputable def c22 : Code := subC b [1, 1, 1, 1, 1, 0, 1, 0, 0, 1, 1, 0, 0, 1, 1, 0, 0, 1, 1, 1]
noncomputable def K47 (k n3 n4 : Nat) : C := outD h c22 (K45 k n3 n4)
noncomputable def K48 (k n3 n4 : Nat) : C := seqC E h k c22 (K45 k n3 n4)
noncomputable def K49 (k n3 n4 : Nat) : C := blockK 5 (K48 k n3 n4)
noncomputable def c23 : Code := subC b [1, 1, 1, 1, 1, 0, 1, 0, 0, 1, 1, 0, 0, 1, 1, 0, 0, 1, 1, 0, 0, 1]
noncomputable def K50 (k n3 n4 : Nat) : C := outD h c23 (K49 k n3 n4)
noncomputable def K51 (k n3 n4 : Nat) : C := seqC E h k c23 (K49 k n3 n4)
noncomputable def c24 : Code := subC b [1, 1, 1, 1, 1, 0, 1, 0, 0, 1, 1, 0, 0, 1, 1, 0, 0, 1, 1, 0, 0, 1, 1]
noncomputable def K52 (k n3 n4 : Nat) : C := outD h c24 (K50 k n3 n4)
noncomputable def K53 (k n3 n4 : Nat) : C := seqC E h k c24 (K50 k n3 n4)
noncomputable def c25 : Code := subC b [1, 1, 1, 1, 1, 0, 1, 0, 0, 1, 1, 0, 0, 1, 1, 0, 0, 1, 1, 0, 0, 1, 0, 1]
noncomputable def K54 (k n3 n4 : Nat) : C := outD h c25 (K53 k n3 n4)
noncomputable def K55 (k n3 n4 : Nat) : C := seqC E h k c25 (K53 k n3 n4)
noncomputable def c26 : Code := subC b [1, 1, 1, 1, 1, 0, 1, 0, 0, 1, 1, 0, 0, 1, 1, 0, 0, 1, 1, 0, 0, 1, 1, 1]
noncomputable def K56 (k n3 n4 : Nat) : C := outD h c26 (K52 k n3 n4)
noncomputable def K57 (k n3 n4 : Nat) : C := seqC E h k c26 (K52 k n3 n4)
noncomputable def c27 : Code := subC b [1, 1, 1, 1, 1, 0, 1, 0, 0, 1, 1, 0, 0, 1, 1, 0, 0, 1, 1, 0, 0, 1, 1, 0, 1]
noncomputable def K58 (k n3 n4 : Nat) : C := outD h c27 (K57 k n3 n4)
noncomputable def K59 (k n3 n4 : Nat) : C := seqC E h k c27 (K57 k n3 n4)
noncomputable def c28 : Code := subC b [1, 1, 1, 1, 1, 0, 1, 0, 0, 1, 1, 0, 0, 1, 1, 0, 0, 1, 1, 0, 0, 1, 1, 0, 1, 1]
noncomputable def K60 (k n3 n4 : Nat) : C := outD h c28 (K58 k n3 n4)
noncomputable def K61 (k n3 n4 : Nat) : C := seqC E h k c28 (K58 k n3 n4)
noncomputable def c29 : Code := subC b [1, 1, 1, 1, 1, 1, 1]
noncomputable def K62 (k : Nat) : C := outD h c29 (K24 k)
noncomputable def K63 (k : Nat) : C := seqC E h k c29 (K24 k)
abbrev T6 := (List (List (Int))) → (List ((List (Int)) × (Int))) → Int → Int → (List (List (Int))) → Int → Int → (List (Int)) → (List (Int)) → R
abbrev T7 := (List (List (Int))) → (List ((List (Int)) × (Int))) → Int → Int → (List (List (Int))) → Int → Int → (List (Int)) → (List (Int)) → (List (Int)) → R
abbrev T8 := (List (List (Int))) → (List ((List (Int)) × (Int))) → Int → (List (Int)) → (List (Int)) → R
abbrev T4 := (List (List (Int))) → (List ((List (Int)) × (Int))) → Int → Int → (List (List (Int))) → Int → Int → (List (Int)) → (List (Int)) → R
abbrev T5 := (List (List (Int))) → (List (Int)) → (List (Int)) → R
abbrev T3 := (List (List (Int))) → (List ((List (Int)) × (Int))) → Int → (List (Int)) → (List (Int)) → R
abbrev T2 := (List (List (Int))) → (List (Int)) → R
abbrev T1 := (List (List (Int))) → (List (List (Int))) → Int → Int → (List (Int)) → R
abbrev T0 := (List (List (Int))) → R
abbrev s6 : (List (List (Int))) → (List ((List (Int)) × (Int))) → Int → Int → (List (List (Int))) → Int → Int → (List (Int)) → (List (Int)) → ST cx := fun (x4 : List (List (Int))) (x8 : List ((List (Int)) × (Int))) (x9 x27 : Int) (x30 : List (List (Int))) (x31 x32 : Int) (m2 m7 : List (Int)) => ({ vars := [(2, .addr (.mem 2) []), (4, .v (.slice 25 (.agg (.arr 4 (.int .u64)))) .ro x4), (7, .addr (.mem 7) []), (8, .v (.map (.agg (.arr 4 (.int .u64))) (.int .u8)) (.pr .dd .dd) x8), (9, .v (.int .i64) .ro x9), (27, .v (.int .i64) .ro x27), (30, .v (.slice 25 (.agg (.arr 4 (.int .u64)))) .ro x30), (31, .v (.int .i64) .ro x31), (32, .v (.int .i64) .ro x32)], scr := [], mems := [(2, ⟨(.agg (.arr 256 (.int .u8))), .ro, m2⟩), (7, ⟨(.agg (.arr 256 (.int .u8))), .ro, m7⟩)] } : ST cx)
noncomputable def u6 (k n3 n4 : Nat) : T6 := fun (x4 : List (List (Int))) (x8 : List ((List (Int)) × (Int))) (x9 x27 : Int) (x30 : List (List (Int))) (x31 x32 : Int) (m2 m7 : List (Int)) => uK (run E h k c22) (s6 x4 x8 x9 x27 x30 x31 x32 m2 m7) (K47 k n3 n4)
noncomputable abbrev l6 (k n3 n4 : Nat) : T6 := fun (x4 : List (List (Int))) (x8 : List ((List (Int)) × (Int))) (x9 x27 : Int) (x30 : List (List (Int))) (x31 x32 : Int) (m2 m7 : List (Int)) => cutK (run E h k c22) (s6 x4 x8 x9 x27 x30 x31 x32 m2 m7) (K47 k n3 n4)
abbrev s7 : (List (List (Int))) → (List ((List (Int)) × (Int))) → Int → Int → (List (List (Int))) → Int → Int → (List (Int)) → (List (Int)) → (List (Int)) → ST cx := fun (x4 : List (List (Int))) (x8 : List ((List (Int)) × (Int))) (x9 x27 : Int) (x30 : List (List (Int))) (x31 x32 : Int) (m2 m7 m11 : List (Int)) => ({ vars := [(2, .addr (.mem 2) []), (4, .v (.slice 25 (.agg (.arr 4 (.int .u64)))) .ro x4), (7, .addr (.mem 7) []), (8, .v (.map (.agg (.arr 4 (.int .u64))) (.int .u8)) (.pr .dd .dd) x8), (9, .v (.int .i64) .ro x9), (11, .addr (.mem 11) []), (27, .v (.int .i64) .ro x27), (30, .v (.slice 25 (.agg (.arr 4 (.int .u64)))) .ro x30), (31, .v (.int .i64) .ro x31), (32, .v (.int .i64) .ro x32)], scr := [], mems := [(2, ⟨(.agg (.arr 256 (.int .u8))), .ro, m2⟩), (7, ⟨(.agg (.arr 256 (.int .u8))), .ro, m7⟩), (11, ⟨(.agg (.arr 4 (.int .u64))), .ro, m11⟩)] } : ST cx)
noncomputable def u7 (k n3 n4 : Nat) : T7 := fun (x4 : List (List (Int))) (x8 : List ((List (Int)) × (Int))) (x9 x27 : Int) (x30 : List (List (Int))) (x31 x32 : Int) (m2 m7 m11 : List (Int)) => uK (run E h k c26) (s7 x4 x8 x9 x27 x30 x31 x32 m2 m7 m11) (K56 k n3 n4)
noncomputable abbrev l7 (k n3 n4 : Nat) : T7 := fun (x4 : List (List (Int))) (x8 : List ((List (Int)) × (Int))) (x9 x27 : Int) (x30 : List (List (Int))) (x31 x32 : Int) (m2 m7 m11 : List (Int)) => cutK (run E h k c26) (s7 x4 x8 x9 x27 x30 x31 x32 m2 m7 m11) (K56 k n3 n4)
abbrev s8 : (List (List (Int))) → (List ((List (Int)) × (Int))) → Int → (List (Int)) → (List (Int)) → ST cx := fun (x4 : List (List (Int))) (x8 : List ((List (Int)) × (Int))) (x27 : Int) (m2 m7 : List (Int)) => ({ vars := [(2, .addr (.mem 2) []), (4, .v (.slice 25 (.agg (.arr 4 (.int .u64)))) .ro x4), (7, .addr (.mem 7) []), (8, .v (.map (.agg (.arr 4 (.int .u64))) (.int .u8)) (.pr .dd .dd) x8), (27, .v (.int .i64) .ro x27)], scr := [], mems := [(2, ⟨(.agg (.arr 256 (.int .u8))), .ro, m2⟩), (7, ⟨(.agg (.arr 256 (.int .u8))), .ro, m7⟩)] } : ST cx)
noncomputable def u8 (k n3 : Nat) : T8 := fun (x4 : List (List (Int))) (x8 : List ((List (Int)) × (Int))) (x27 : Int) (m2 m7 : List (Int)) => uK (run E h k c16) (s8 x4 x8 x27 m2 m7) (K34 k n3)
noncomputable abbrev l8 (k n3 : Nat) : T8 := fun (x4 : List (List (Int))) (x8 : List ((List (Int)) × (Int))) (x27 : Int) (m2 m7 : List (Int)) => cutK (run E h k c16) (s8 x4 x8 x27 m2 m7) (K34 k n3)
abbrev s4 : (List (List (Int))) → (List ((List (Int)) × (Int))) → Int → Int → (List (List (Int))) → Int → Int → (List (Int)) → (List (Int)) → ST cx := fun (x4 : List (List (Int))) (x8 : List ((List (Int)) × (Int))) (x9 x27 : Int) (x30 : List (List (Int))) (x31 x32 : Int) (m2 m7 : List (Int)) => ({ vars := [(2, .addr (.mem 2) []), (4, .v (.slice 25 (.agg (.arr 4 (.int .u64)))) .ro x4), (7, .addr (.mem 7) []), (8, .v (.map (.agg (.arr 4 (.int .u64))) (.int .u8)) (.pr .dd .dd) x8), (9, .v (.int .i64) .ro x9), (27, .v (.int .i64) .ro x27), (30, .v (.slice 25 (.agg (.arr 4 (.int .u64)))) .ro x30), (31, .v (.int .i64) .ro x31), (32, .v (.int .i64) .ro x32)], scr := [], mems := [(2, ⟨(.agg (.arr 256 (.int .u8))), .ro, m2⟩), (7, ⟨(.agg (.arr 256 (.int .u8))), .ro, m7⟩)] } : ST cx)
noncomputable def u4 (k n3 n4 : Nat) : T4 := fun (x4 : List (List (Int))) (x8 : List ((List (Int)) × (Int))) (x9 x27 : Int) (x30 : List (List (Int))) (x31 x32 : Int) (m2 m7 : List (Int)) => uK (loopL E h k c19 (K41 k n3) n4) (s4 x4 x8 x9 x27 x30 x31 x32 m2 m7) ()
noncomputable abbrev l4 (k n3 n4 : Nat) : T4 := fun (x4 : List (List (Int))) (x8 : List ((List (Int)) × (Int))) (x9 x27 : Int) (x30 : List (List (Int))) (x31 x32 : Int) (m2 m7 : List (Int)) => cutK (loopL E h k c19 (K41 k n3) n4) (s4 x4 x8 x9 x27 x30 x31 x32 m2 m7) ()
abbrev s5 : (List (List (Int))) → (List (Int)) → (List (Int)) → ST cx := fun (x4 : List (List (Int))) (m2 m7 : List (Int)) => ({ vars := [(2, .addr (.mem 2) []), (4, .v (.slice 25 (.agg (.arr 4 (.int .u64)))) .ro x4), (7, .addr (.mem 7) [])], scr := [], mems := [(2, ⟨(.agg (.arr 256 (.int .u8))), .ro, m2⟩), (7, ⟨(.agg (.arr 256 (.int .u8))), .ro, m7⟩)] } : ST cx)
noncomputable def u5 (k : Nat) : T5 := fun (x4 : List (List (Int))) (m2 m7 : List (Int)) => uK (run E h k c11) (s5 x4 m2 m7) (K24 k)
noncomputable abbrev l5 (k : Nat) : T5 := fun (x4 : List (List (Int))) (m2 m7 : List (Int)) => cutK (run E h k c11) (s5 x4 m2 m7) (K24 k)
abbrev s3 : (List (List (Int))) → (List ((List (Int)) × (Int))) → Int → (List (Int)) → (List (Int)) → ST cx := fun (x4 : List (List (Int))) (x8 : List ((List (Int)) × (Int))) (x27 : Int) (m2 m7 : List (Int)) => ({ vars := [(2, .addr (.mem 2) []), (4, .v (.slice 25 (.agg (.arr 4 (.int .u64)))) .ro x4), (7, .addr (.mem 7) []), (8, .v (.map (.agg (.arr 4 (.int .u64))) (.int .u8)) (.pr .dd .dd) x8), (27, .v (.int .i64) .ro x27)], scr := [], mems := [(2, ⟨(.agg (.arr 256 (.int .u8))), .ro, m2⟩), (7, ⟨(.agg (.arr 256 (.int .u8))), .ro, m7⟩)] } : ST cx)
noncomputable def u3 (k n3 : Nat) : T3 := fun (x4 : List (List (Int))) (x8 : List ((List (Int)) × (Int))) (x27 : Int) (m2 m7 : List (Int)) => uK (loopL E h k c13 (K28 k) n3) (s3 x4 x8 x27 m2 m7) ()
noncomputable abbrev l3 (k n3 : Nat) : T3 := fun (x4 : List (List (Int))) (x8 : List ((List (Int)) × (Int))) (x27 : Int) (m2 m7 : List (Int)) => cutK (loopL E h k c13 (K28 k) n3) (s3 x4 x8 x27 m2 m7) ()
abbrev s2 : (List (List (Int))) → (List (Int)) → ST cx := fun (x4 : List (List (Int))) (m2 : List (Int)) => ({ vars := [(2, .addr (.mem 2) []), (4, .v (.slice 25 (.agg (.arr 4 (.int .u64)))) .ro x4)], scr := [], mems := [(2, ⟨(.agg (.arr 256 (.int .u8))), .ro, m2⟩)] } : ST cx)
noncomputable def u2 (k : Nat) : T2 := fun (x4 : List (List (Int))) (m2 : List (Int)) => uK (run E h k c2) (s2 x4 m2) (K5 k)
noncomputable abbrev l2 (k : Nat) : T2 := fun (x4 : List (List (Int))) (m2 : List (Int)) => cutK (run E h k c2) (s2 x4 m2) (K5 k)
abbrev s1 : (List (List (Int))) → (List (List (Int))) → Int → Int → (List (Int)) → ST cx := fun (x4 x16 : List (List (Int))) (x17 x18 : Int) (m2 : List (Int)) => ({ vars := [(2, .addr (.mem 2) []), (4, .v (.slice 25 (.agg (.arr 4 (.int .u64)))) .ro x4), (16, .v (.slice 25 (.agg (.arr 4 (.int .u64)))) .ro x16), (17, .v (.int .i64) .ro x17), (18, .v (.int .i64) .ro x18)], scr := [], mems := [(2, ⟨(.agg (.arr 256 (.int .u8))), .ro, m2⟩)] } : ST cx)
noncomputable def u1 (k n1 : Nat) : T1 := fun (x4 x16 : List (List (Int))) (x17 x18 : Int) (m2 : List (Int)) => uK (loopL E h k c4 (K9 k) n1) (s1 x4 x16 x17 x18 m2) ()
noncomputable abbrev l1 (k n1 : Nat) : T1 := fun (x4 x16 : List (List (Int))) (x17 x18 : Int) (m2 : List (Int)) => cutK (loopL E h k c4 (K9 k) n1) (s1 x4 x16 x17 x18 m2) ()
noncomputable def u0 (k : Nat) : T0 := fun (x0 : List (List (Int))) => runOf (S := cx) E h k Try.f12 [.val (.slice 25 (.agg (.arr 4 (.int .u64))))] (.pair (.agg (.arr 256 (.int .u8))) (.int .i64)) .ro (x0, ())
def t6 (f4 : T4) : T6 := fun (x4 : List (List (Int))) (x8 : List ((List (Int)) × (Int))) (x9 x27 : Int) (x30 : List (List (Int))) (x31 x32 : Int) (m2 m7 : List (Int)) => 
  (f4 x4 x8 x9 x27 x30 x31 (w64 (x32 + (1 : Int))) m2 m7)
theorem e6 (k n3 n4 : Nat) : u6 k n3 n4 = t6 (l4 k n3 n4) := by kernel_rfl
theorem g6 (k n3 n4 : Nat) : l6 k n3 n4 = u6 k n3 n4 := funext fun _ => funext fun _ => funext fun _ => funext fun _ => funext fun _ => funext fun _ => funext fun _ => funext fun _ => funext fun _ => cut_u _ _ _
theorem d6 {x4 y4 : T4} (h4 : x4 = y4) : t6 x4 = t6 y4 := by subst h4; rfl
def p6 (k : Nat) (a3 : T3) (a4 : T4) : T6 := t6 a4
theorem o6 (k n3 n4 : Nat) (a3 : T3) (a4 : T4) (h3 : l3 k n3 = a3) (h4 : l4 k n3 n4 = a4) : l6 k n3 n4 = p6 k a3 a4 := (Eq.trans (b := u6 k n3 n4) (g6 k n3 n4) (Eq.trans (b := t6 (l4 k n3 n4)) (e6 k n3 n4) (Eq.trans (b := t6 a4) (d6 h4) (by kernel_rfl))))
def t7 (f6 : T6) : T7 := fun (x4 : List (List (Int))) (x8 : List ((List (Int)) × (Int))) (x9 x27 : Int) (x30 : List (List (Int))) (x31 x32 : Int) (m2 m7 m11 : List (Int)) => 
  (withinR x9 256 fun q6 => (f6 x4 x8 x9 x27 x30 x31 x32 m2 (List.set m7 q6 (Option.getD (findM (fun (a b : List (Int)) => (decide (a = b))) m11 x8) (0 : Int)))))
theorem e7 (k n3 n4 : Nat) : u7 k n3 n4 = t7 (l6 k n3 n4) := by kernel_rfl
theorem g7 (k n3 n4 : Nat) : l7 k n3 n4 = u7 k n3 n4 := funext fun _ => funext fun _ => funext fun _ => funext fun _ => funext fun _ => funext fun _ => funext fun _ => funext fun _ => funext fun _ => funext fun _ => cut_u _ _ _
theorem d7 {x6 y6 : T6} (h6 : x6 = y6) : t7 x6 = t7 y6 := by subst h6; rfl
def p7 (k : Nat) (a3 : T3) (a4 : T4) : T7 := t7 (p6 k a3 a4)
theorem o7 (k n3 n4 : Nat) (a3 : T3) (a4 : T4) (h3 : l3 k n3 = a3) (h4 : l4 k n3 n4 = a4) : l7 k n3 n4 = p7 k a3 a4 := (Eq.trans (b := u7 k n3 n4) (g7 k n3 n4) (Eq.trans (b := t7 (l6 k n3 n4)) (e7 k n3 n4) (Eq.trans (b := t7 (p6 k a3 a4)) (d7 (o6 k n3 n4 a3 a4 h3 h4)) (by kernel_rfl))))
def t8 (f3 : T3) : T8 := fun (x4 : List (List (Int))) (x8 : List ((List (Int)) × (Int))) (x27 : Int) (m2 m7 : List (Int)) => 
  (f3 x4 x8 (w64 (x27 + (1 : Int))) m2 m7)
theorem e8 (k n3 : Nat) : u8 k n3 = t8 (l3 k n3) := by kernel_rfl
theorem g8 (k n3 : Nat) : l8 k n3 = u8 k n3 := funext fun _ => funext fun _ => funext fun _ => funext fun _ => funext fun _ => cut_u _ _ _
theorem d8 {x3 y3 : T3} (h3 : x3 = y3) : t8 x3 = t8 y3 := by subst h3; rfl
def p8 (k : Nat) (a3 : T3) : T8 := t8 a3
theorem o8 (k n3 : Nat) (a3 : T3) (h3 : l3 k n3 = a3) : l8 k n3 = p8 k a3 := (Eq.trans (b := u8 k n3) (g8 k n3) (Eq.trans (b := t8 (l3 k n3)) (e8 k n3) (Eq.trans (b := t8 a3) (d8 h3) (by kernel_rfl))))
def t4 (f6 : T6) (f7 : T7) (f8 : T8) : T4 := fun (x4 : List (List (Int))) (x8 : List ((List (Int)) × (Int))) (x9 x27 : Int) (x30 : List (List (Int))) (x31 x32 : Int) (m2 m7 : List (Int)) => 
  (iteB (decide (x32 < x31)) (withinR x32 (List.length x30) fun q4 => (bindR (s_bytesets_Has ((List.getD x30 q4 (List.replicate 4 (0 : Int))), ((w8 (x9)), ()))) fun r5 => (iteB (notB r5.1) (f6 x4 x8 x9 x27 x30 x31 x32 m2 m7) (iteB (notB (Option.isSome (findM (fun (a b : List (Int)) => (decide (a = b))) (List.getD x30 q4 (List.replicate 4 (0 : Int))) x8))) (f7 x4 (putM (fun (a b : List (Int)) => (decide (a = b))) (List.getD x30 q4 (List.replicate 4 (0 : Int))) (w8 (((List.length x8 : Nat) : Int))) x8) x9 x27 x30 x31 x32 m2 m7 (List.getD x30 q4 (List.replicate 4 (0 : Int)))) (f7 x4 x8 x9 x27 x30 x31 x32 m2 m7 (List.getD x30 q4 (List.replicate 4 (0 : Int)))))))) (f8 x4 x8 x27 m2 m7))
theorem e4 (k n3 n4 : Nat) : u4 k n3 (n4 + 1) = t4 (l6 k n3 n4) (l7 k n3 n4) (l8 k n3) := by kernel_rfl
theorem g4 (k n3 n4 : Nat) : l4 k n3 (n4 + 1) = u4 k n3 (n4 + 1) := funext fun _ => funext fun _ => funext fun _ => funext fun _ => funext fun _ => funext fun _ => funext fun _ => funext fun _ => funext fun _ => cut_u _ _ _
theorem d4 {x6 y6 : T6} {x7 y7 : T7} {x8 y8 : T8} (h6 : x6 = y6) (h7 : x7 = y7) (h8 : x8 = y8) : t4 x6 x7 x8 = t4 y6 y7 y8 := by subst h6; subst h7; subst h8; rfl
def p4 (k : Nat) (a3 : T3) : Nat → T4
  | 0 => fun _ _ _ _ _ _ _ _ _ => none
  | n4 + 1 => t4 (p6 k a3 (p4 k a3 n4)) (p7 k a3 (p4 k a3 n4)) (p8 k a3)
theorem o4 (k n3 : Nat) (a3 : T3) (h3 : l3 k n3 = a3) : ∀ n4, l4 k n3 n4 = p4 k a3 n4 := by
  intro n4
  induction n4 with
  | zero => kernel_rfl
  | succ n4 ih => exact (Eq.trans (b := u4 k n3 (n4 + 1)) (g4 k n3 n4) (Eq.trans (b := t4 (l6 k n3 n4) (l7 k n3 n4) (l8 k n3)) (e4 k n3 n4) (Eq.trans (b := t4 (p6 k a3 (p4 k a3 n4)) (p7 k a3 (p4 k a3 n4)) (p8 k a3)) (d4 (o6 k n3 n4 a3 (p4 k a3 n4) h3 ih) (o7 k n3 n4 a3 (p4 k a3 n4) h3 ih) (o8 k n3 a3 h3)) (by kernel_rfl))))
def t5 : T5 := fun (x4 : List (List (Int))) (m2 m7 : List (Int)) => 
  (some ((m7, ((List.length x4 : Nat) : Int)), ()))
theorem e5 (k : Nat) : u5 k = t5 := by kernel_rfl
theorem g5 (k : Nat) : l5 k = u5 k := funext fun _ => funext fun _ => funext fun _ => cut_u _ _ _
def p5 (k : Nat) : T5 := t5
theorem o5 (k : Nat) : l5 k = p5 k := (Eq.trans (b := u5 k) (g5 k) (Eq.trans (b := t5) (e5 k) (by kernel_rfl)))
def t3 (f4 : T4) (f5 : T5) : T3 := fun (x4 : List (List (Int))) (x8 : List ((List (Int)) × (Int))) (x27 : Int) (m2 m7 : List (Int)) => 
  (iteB (decide (x27 < (256 : Int))) (f4 x4 x8 x27 x27 x4 ((List.length x4 : Nat) : Int) (0 : Int) m2 m7) (f5 x4 m2 m7))
theorem e3 (k n3 : Nat) : u3 k (n3 + 1) = t3 (l4 k n3 k) (l5 k) := by kernel_rfl
theorem g3 (k n3 : Nat) : l3 k (n3 + 1) = u3 k (n3 + 1) := funext fun _ => funext fun _ => funext fun _ => funext fun _ => funext fun _ => cut_u _ _ _
theorem d3 {x4 y4 : T4} {x5 y5 : T5} (h4 : x4 = y4) (h5 : x5 = y5) : t3 x4 x5 = t3 y4 y5 := by subst h4; subst h5; rfl
def p3 (k : Nat) : Nat → T3
  | 0 => fun _ _ _ _ _ => none
  | n3 + 1 => t3 (p4 k (p3 k n3) k) (p5 k)
theorem o3 (k : Nat) : ∀ n3, l3 k n3 = p3 k n3 := by
  intro n3
  induction n3 with
  | zero => kernel_rfl
  | succ n3 ih => exact (Eq.trans (b := u3 k (n3 + 1)) (g3 k n3) (Eq.trans (b := t3 (l4 k n3 k) (l5 k)) (e3 k n3) (Eq.trans (b := t3 (p4 k (p3 k n3) k) (p5 k)) (d3 (o4 k n3 (p3 k n3) ih k) (o5 k)) (by kernel_rfl))))
def t2 (f3 : T3) : T2 := fun (x4 : List (List (Int))) (m2 : List (Int)) => 
  (f3 x4 ([] : List ((List (Int)) × (Int))) (0 : Int) m2 (List.replicate 256 (0 : Int)))
theorem e2 (k : Nat) : u2 k = t2 (l3 k k) := by kernel_rfl
theorem g2 (k : Nat) : l2 k = u2 k := funext fun _ => funext fun _ => cut_u _ _ _
theorem d2 {x3 y3 : T3} (h3 : x3 = y3) : t2 x3 = t2 y3 := by subst h3; rfl
def p2 (k : Nat) : T2 := t2 (p3 k k)
theorem o2 (k : Nat) : l2 k = p2 k := (Eq.trans (b := u2 k) (g2 k) (Eq.trans (b := t2 (l3 k k)) (e2 k) (Eq.trans (b := t2 (p3 k k)) (d2 (o3 k k)) (by kernel_rfl))))
def t1 (f1 : T1) (f2 : T2) : T1 := fun (x4 x16 : List (List (Int))) (x17 x18 : Int) (m2 : List (Int)) => 
  (iteB (decide (x18 < x17)) (withinR x18 (List.length x16) fun q2 => (bindR (s_bytesets_split (x4, ((List.getD x16 q2 (List.replicate 4 (0 : Int))), ()))) fun r3 => (f1 r3.1 x16 x17 (w64 (x18 + (1 : Int))) m2))) (f2 x4 m2))
theorem e1 (k n1 : Nat) : u1 k (n1 + 1) = t1 (l1 k n1) (l2 k) := by kernel_rfl
theorem g1 (k n1 : Nat) : l1 k (n1 + 1) = u1 k (n1 + 1) := funext fun _ => funext fun _ => funext fun _ => funext fun _ => funext fun _ => cut_u _ _ _
theorem d1 {x1 y1 : T1} {x2 y2 : T2} (h1 : x1 = y1) (h2 : x2 = y2) : t1 x1 x2 = t1 y1 y2 := by subst h1; subst h2; rfl
def p1 (k : Nat) : Nat → T1
  | 0 => fun _ _ _ _ _ => none
  | n1 + 1 => t1 (p1 k n1) (p2 k)
theorem o1 (k : Nat) : ∀ n1, l1 k n1 = p1 k n1 := by
  intro n1
  induction n1 with
  | zero => kernel_rfl
  | succ n1 ih => exact (Eq.trans (b := u1 k (n1 + 1)) (g1 k n1) (Eq.trans (b := t1 (l1 k n1) (l2 k)) (e1 k n1) (Eq.trans (b := t1 (p1 k n1) (p2 k)) (d1 ih (o2 k)) (by kernel_rfl))))
def t0 (f1 : T1) : T0 := fun (x0 : List (List (Int))) => 
  (bindR (s_bytesets_All ()) fun r1 => (f1 ([r1.1] : List (List (Int))) x0 ((List.length x0 : Nat) : Int) (0 : Int) (List.replicate 256 (0 : Int))))
theorem e0 (k : Nat) : u0 k = t0 (l1 k k) := by kernel_rfl
theorem d0 {x1 y1 : T1} (h1 : x1 = y1) : t0 x1 = t0 y1 := by subst h1; rfl
def p0 (k : Nat) : T0 := t0 (p1 k k)
theorem o0 (k : Nat) : u0 k = p0 k := (Eq.trans (b := t0 (l1 k k)) (e0 k) (Eq.trans (b := t0 (p1 k k)) (d0 (o1 k k)) (by kernel_rfl)))
end bytesets_Classes
def s_bytesets_Classes (a : (List (List (Int))) × (Unit)) : Option (((List (Int)) × (Int)) × (Unit)) := bytesets_Classes.p0 (fuel) a.1
noncomputable def F_bytesets_Classes : FSpec cx.toNm := { ps := [.val (.slice 25 (.agg (.arr 4 (.int .u64))))], nres := 2, rt := (.pair (.agg (.arr 256 (.int .u8))) (.int .i64)), rm := .ro, f := s_bytesets_Classes }
theorem w_bytesets_Classes (a : (List (List (Int))) × (Unit)) : runOf (S := cx) bytesets_Classes.E bytesets_Classes.h (fuel) Try.f12 F_bytesets_Classes.ps F_bytesets_Classes.rt F_bytesets_Classes.rm a = F_bytesets_Classes.f a := Eq.trans (b := bytesets_Classes.u0 (fuel) a.1) (by kernel_rfl) (Eq.trans (b := bytesets_Classes.p0 (fuel) a.1) (congrFun (bytesets_Classes.o0 (fuel)) a.1) (by kernel_rfl))
theorem ok_bytesets_Classes : FnOk Try.prog F_bytesets_Classes 12 := fn_of (hn := bytesets_Classes.h) (E := bytesets_Classes.E) cxOk (tysT _) (fs_cons ok_bytesets_All (fs_cons ok_bytesets_split (fs_cons ok_bytesets_Has fs_nil))) follows Try.func12 (by kernel_rfl) (fun a r h => ⟨fuel, Eq.trans (w_bytesets_Classes a) h⟩)
namespace bytesets_put
noncomputable def E : Env cx := { tys := tys, fs := fsOf [] }
abbrev R := Option ((Unit) × ((List (Int)) × (Unit)))
abbrev C := Exit → ST cx → R
noncomputable def b : Code := bodyC Try.f24
noncomputable def h : Hint := { vs := [0, 1], nil := [(0, (.own .ro))], cuts := [], ret := ([0], [1000000]), ords := [] }
noncomputable def K0 : C := fin (S := cx) E Try.f24.results.toList .unit .ro [1000000] [((.agg (.arr 4 (.int .u64))), .ro)]
abbrev T0 := (List (Int)) → Int → R
noncomputable def u0 (k : Nat) : T0 := fun (x0 : List (Int)) (x1 : Int) => runOf (S := cx) E h k Try.f24 [.io (.agg (.arr 4 (.int .u64))) .ro, .val (.int .u8)] .unit .ro (x0, x1, ())
def t0 : T0 := fun (x0 : List (Int)) (x1 : Int) => 
  (withinR (w8 (Int.tdiv x1 (64 : Int))) 4 fun q1 => (mustR (decide (0 ≤ (Int.tmod x1 (64 : Int)))) (withinR (w8 (Int.tdiv x1 (64 : Int))) 4 fun q2 => (some ((), ((List.set x0 q2 (bitI .or .u64 (List.getD x0 q1 (0 : Int)) (shlI .u64 (1 : Int) (Int.tmod x1 (64 : Int))))), ()))))))
theorem e0 (k : Nat) : u0 k = t0 := by kernel_rfl
def p0 (k : Nat) : T0 := t0
theorem o0 (k : Nat) : u0 k = p0 k := (Eq.trans (b := t0) (e0 k) (by kernel_rfl))
end bytesets_put
def s_bytesets_put (a : (List (Int)) × ((Int) × (Unit))) : Option ((Unit) × ((List (Int)) × (Unit))) := bytesets_put.p0 (fuel) a.1 a.2.1
noncomputable def F_bytesets_put : FSpec cx.toNm := { ps := [.io (.agg (.arr 4 (.int .u64))) .ro, .val (.int .u8)], nres := 0, rt := .unit, rm := .ro, f := s_bytesets_put }
theorem w_bytesets_put (a : (List (Int)) × ((Int) × (Unit))) : runOf (S := cx) bytesets_put.E bytesets_put.h (fuel) Try.f24 F_bytesets_put.ps F_bytesets_put.rt F_bytesets_put.rm a = F_bytesets_put.f a := Eq.trans (b := bytesets_put.u0 (fuel) a.1 a.2.1) (by kernel_rfl) (Eq.trans (b := bytesets_put.p0 (fuel) a.1 a.2.1) (congrFun (congrFun (bytesets_put.o0 (fuel)) a.1) a.2.1) (by kernel_rfl))
theorem ok_bytesets_put : FnOk Try.prog F_bytesets_put 24 := fn_of (hn := bytesets_put.h) (E := bytesets_put.E) cxOk (tysT _) fs_nil follows Try.func24 (by kernel_rfl) (fun a r h => ⟨fuel, Eq.trans (w_bytesets_put a) h⟩)
namespace bytesets_Of
noncomputable def E : Env cx := { tys := tys, fs := fsOf [(24, F_bytesets_put)] }
abbrev R := Option ((List (Int)) × (Unit))
abbrev C := Exit → ST cx → R
noncomputable def b : Code := bodyC Try.f16
noncomputable def h : Hint := { vs := [0, 2, 3, 5, 6, 7, 8], nil := [], cuts := [(3, ([2, 3, 6, 7, 8], [2, 3]), ([2, 3], [2, 3])), (7, ([2, 3], [2, 3]), ([2, 3], [2, 3]))], ret := ([2], [2, 3]), ords := [] }
noncomputable def K0 : C := fin (S := cx) E Try.f16.results.toList (.agg (.arr 4 (.int .u64))) .ro [] []
noncomputable def c0 : Code := subC b [1]
noncomputable def K1 (k : Nat) : C := outD h c0 K0
noncomputable def K2 (k : Nat) : C := seqC E h k c0 K0
noncomputable def c1 : Code := subC b [1, 1]
noncomputable def K3 (k : Nat) : C := outD h c1 (K1 k)
noncomputable def K4 (k : Nat) : C := seqC E h k c1 (K1 k)
noncomputable def c2 : Code := subC b [1, 1, 1]
noncomputable def K5 (k : Nat) : C := outD h c2 (K3 k)
noncomputable def K6 (k : Nat) : C := seqC E h k c2 (K3 k)
noncomputable def c3 : Code := subC b [1, 1, 0, 1]
noncomputable def K7 (k : Nat) : C := outD h c3 (K6 k)
noncomputable def K8 (k : Nat) : C := seqC E h k c3 (K6 k)
noncomputable def K9 (k : Nat) : C := blockK 0 (K7 k)
noncomputable def c4 : Code := subC b [1, 1, 0, 1, 0, 0]
noncomputable def K10 (k n1 : Nat) : C := loopD E h k c4 (K9 k) n1
noncomputable def c5 : Code := subC b [1, 1, 0, 1, 0, 0, 1]
noncomputable def K11 (k n1 : Nat) : C := outD h c5 (K10 k n1)
noncomputable def K12 (k n1 : Nat) : C := seqC E h k c5 (K10 k n1)
noncomputable def c6 : Code := subC b [1, 1, 0, 1, 0, 0, 1, 1]
noncomputable def K13 (k n1 : Nat) : C := outD h c6 (K11 k n1)
noncomputable def K14 (k n1 : Nat) : C := seqC E h k c6 (K11 k n1)
noncomputable def c7 : Code := subC b [1, 1, 0, 1, 0, 0, 1, 1, 1]
noncomputable def K15 (k n1 : Nat) : C := outD h c7 (K13 k n1)
noncomputable def K16 (k n1 : Nat) : C := seqC E h k c7 (K13 k n1)
noncomputable def K17 (k n1 : Nat) : C := blockK 1 (K16 k n1)
noncomputable def c8 : Code := subC b [1, 1, 0, 1, 0, 0, 1, 1, 0, 0, 1]
noncomputable def K18 (k n1 : Nat) : C := outD h c8 (K17 k n1)
noncomputable def K19 (k n1 : Nat) : C := seqC E h k c8 (K17 k n1)
noncomputable def c9 : Code := subC b [1, 1, 1, 1]
noncomputable def K20 (k : Nat) : C := outD h c9 (K5 k)
noncomputable def K21 (k : Nat) : C := seqC E h k c9 (K5 k)
abbrev T2 := (List (Int)) → (List (Int)) → R
abbrev T1 := (List (Int)) → Int → Int → (List (Int)) → (List (Int)) → R
abbrev T0 := (List (Int)) → R
abbrev s2 : (List (Int)) → (List (Int)) → ST cx := fun (m2 m3 : List (Int)) => ({ vars := [(2, .addr (.mem 2) []), (3, .addr (.mem 3) [])], scr := [], mems := [(2, ⟨(.agg (.arr 4 (.int .u64))), .ro, m2⟩), (3, ⟨(.agg (.arr 4 (.int .u64))), .ro, m3⟩)] } : ST cx)
noncomputable def u2 (k : Nat) : T2 := fun (m2 m3 : List (Int)) => uK (run E h k c2) (s2 m2 m3) (K5 k)
noncomputable abbrev l2 (k : Nat) : T2 := fun (m2 m3 : List (Int)) => cutK (run E h k c2) (s2 m2 m3) (K5 k)
abbrev s1 : (List (Int)) → Int → Int → (List (Int)) → (List (Int)) → ST cx := fun (x6 : List (Int)) (x7 x8 : Int) (m2 m3 : List (Int)) => ({ vars := [(2, .addr (.mem 2) []), (3, .addr (.mem 3) []), (6, .v (.slice 5 (.int .u8)) .ro x6), (7, .v (.int .i64) .ro x7), (8, .v (.int .i64) .ro x8)], scr := [], mems := [(2, ⟨(.agg (.arr 4 (.int .u64))), .ro, m2⟩), (3, ⟨(.agg (.arr 4 (.int .u64))), .ro, m3⟩)] } : ST cx)
noncomputable def u1 (k n1 : Nat) : T1 := fun (x6 : List (Int)) (x7 x8 : Int) (m2 m3 : List (Int)) => uK (loopL E h k c4 (K9 k) n1) (s1 x6 x7 x8 m2 m3) ()
noncomputable abbrev l1 (k n1 : Nat) : T1 := fun (x6 : List (Int)) (x7 x8 : Int) (m2 m3 : List (Int)) => cutK (loopL E h k c4 (K9 k) n1) (s1 x6 x7 x8 m2 m3) ()
noncomputable def u0 (k : Nat) : T0 := fun (x0 : List (Int)) => runOf (S := cx) E h k Try.f16 [.val (.slice 5 (.int .u8))] (.agg (.arr 4 (.int .u64))) .ro (x0, ())
def t2 : T2 := fun (m2 m3 : List (Int)) => 
  (some (m3, ()))
theorem e2 (k : Nat) : u2 k = t2 := by kernel_rfl
theorem g2 (k : Nat) : l2 k = u2 k := funext fun _ => funext fun _ => cut_u _ _ _
def p2 (k : Nat) : T2 := t2
theorem o2 (k : Nat) : l2 k = p2 k := (Eq.trans (b := u2 k) (g2 k) (Eq.trans (b := t2) (e2 k) (by kernel_rfl)))
def t1 (f1 : T1) (f2 : T2) : T1 := fun (x6 : List (Int)) (x7 x8 : Int) (m2 m3 : List (Int)) => 
  (iteB (decide (x8 < x7)) (withinR x8 (List.length x6) fun q1 => (bindR (s_bytesets_put (m3, ((List.getD x6 q1 (0 : Int)), ()))) fun r2 => (f1 x6 x7 (w64 (x8 + (1 : Int))) m2 r2.2.1))) (f2 m2 m3))
theorem e1 (k n1 : Nat) : u1 k (n1 + 1) = t1 (l1 k n1) (l2 k) := by kernel_rfl
theorem g1 (k n1 : Nat) : l1 k (n1 + 1) = u1 k (n1 + 1) := funext fun _ => funext fun _ => funext fun _ => funext fun _ => funext fun _ => cut_u _ _ _
theorem d1 {x1 y1 : T1} {x2 y2 : T2} (h1 : x1 = y1) (h2 : x2 = y2) : t1 x1 x2 = t1 y1 y2 := by subst h1; subst h2; rfl
def p1 (k : Nat) : Nat → T1
  | 0 => fun _ _ _ _ _ => none
  | n1 + 1 => t1 (p1 k n1) (p2 k)
theorem o1 (k : Nat) : ∀ n1, l1 k n1 = p1 k n1 := by
  intro n1
  induction n1 with
  | zero => kernel_rfl
  | succ n1 ih => exact (Eq.trans (b := u1 k (n1 + 1)) (g1 k n1) (Eq.trans (b := t1 (l1 k n1) (l2 k)) (e1 k n1) (Eq.trans (b := t1 (p1 k n1) (p2 k)) (d1 ih (o2 k)) (by kernel_rfl))))
def t0 (f1 : T1) : T0 := fun (x0 : List (Int)) => 
  (f1 x0 ((List.length x0 : Nat) : Int) (0 : Int) (List.replicate 4 (0 : Int)) (List.replicate 4 (0 : Int)))
theorem e0 (k : Nat) : u0 k = t0 (l1 k k) := by kernel_rfl
theorem d0 {x1 y1 : T1} (h1 : x1 = y1) : t0 x1 = t0 y1 := by subst h1; rfl
def p0 (k : Nat) : T0 := t0 (p1 k k)
theorem o0 (k : Nat) : u0 k = p0 k := (Eq.trans (b := t0 (l1 k k)) (e0 k) (Eq.trans (b := t0 (p1 k k)) (d0 (o1 k k)) (by kernel_rfl)))
end bytesets_Of
def s_bytesets_Of (a : (List (Int)) × (Unit)) : Option ((List (Int)) × (Unit)) := bytesets_Of.p0 (fuel) a.1
noncomputable def F_bytesets_Of : FSpec cx.toNm := { ps := [.val (.slice 5 (.int .u8))], nres := 1, rt := (.agg (.arr 4 (.int .u64))), rm := .ro, f := s_bytesets_Of }
theorem w_bytesets_Of (a : (List (Int)) × (Unit)) : runOf (S := cx) bytesets_Of.E bytesets_Of.h (fuel) Try.f16 F_bytesets_Of.ps F_bytesets_Of.rt F_bytesets_Of.rm a = F_bytesets_Of.f a := Eq.trans (b := bytesets_Of.u0 (fuel) a.1) (by kernel_rfl) (Eq.trans (b := bytesets_Of.p0 (fuel) a.1) (congrFun (bytesets_Of.o0 (fuel)) a.1) (by kernel_rfl))
theorem ok_bytesets_Of : FnOk Try.prog F_bytesets_Of 16 := fn_of (hn := bytesets_Of.h) (E := bytesets_Of.E) cxOk (tysT _) (fs_cons ok_bytesets_put fs_nil) follows Try.func16 (by kernel_rfl) (fun a r h => ⟨fuel, Eq.trans (w_bytesets_Of a) h⟩)
namespace bytesets_Class_1
noncomputable def E : Env cx := { tys := tys, fs := fsOf [] }
abbrev R := Option ((Bool) × (Unit))
abbrev C := Exit → ST cx → R
noncomputable def b : Code := bodyC Try.f23
noncomputable def h : Hint := { vs := [0, 1, 2, 4], nil := [], cuts := [], ret := ([4], []), ords := [] }
noncomputable def K0 : C := fin (S := cx) E Try.f23.results.toList .bool .ro [] []
noncomputable def c0 : Code := subC b [1]
noncomputable def K1 (k : Nat) : C := outD h c0 K0
noncomputable def K2 (k : Nat) : C := seqC E h k c0 K0
noncomputable def c1 : Code := subC b [1, 1]
noncomputable def K3 (k : Nat) : C := outD h c1 (K1 k)
noncomputable def K4 (k : Nat) : C := seqC E h k c1 (K1 k)
abbrev T0 := Int → (List (Int)) → Int → R
noncomputable def u0 (k : Nat) : T0 := fun (x0 : Int) (x1 : List (Int)) (x2 : Int) => runOf (S := cx) E h k Try.f23 [.val (.int .u8), .val (.box (.agg (.arr 256 (.int .u8)))), .val (.box (.int .i64))] .bool .ro (x0, x1, x2, ())
def t0 : T0 := fun (x0 : Int) (x1 : List (Int)) (x2 : Int) => 
  (withinR x0 256 fun q1 => (some ((decide ((w64 ((List.getD x1 q1 (0 : Int)))) = x2)), ())))
theorem e0 (k : Nat) : u0 k = t0 := by kernel_rfl
def p0 (k : Nat) : T0 := t0
theorem o0 (k : Nat) : u0 k = p0 k := (Eq.trans (b := t0) (e0 k) (by kernel_rfl))
end bytesets_Class_1
def s_bytesets_Class_1 (a : (Int) × ((List (Int)) × ((Int) × (Unit)))) : Option ((Bool) × (Unit)) := bytesets_Class_1.p0 (fuel) a.1 a.2.1 a.2.2.1
noncomputable def F_bytesets_Class_1 : FSpec cx.toNm := { ps := [.val (.int .u8), .val (.box (.agg (.arr 256 (.int .u8)))), .val (.box (.int .i64))], nres := 1, rt := .bool, rm := .ro, f := s_bytesets_Class_1 }
theorem w_bytesets_Class_1 (a : (Int) × ((List (Int)) × ((Int) × (Unit)))) : runOf (S := cx) bytesets_Class_1.E bytesets_Class_1.h (fuel) Try.f23 F_bytesets_Class_1.ps F_bytesets_Class_1.rt F_bytesets_Class_1.rm a = F_bytesets_Class_1.f a := Eq.trans (b := bytesets_Class_1.u0 (fuel) a.1 a.2.1 a.2.2.1) (by kernel_rfl) (Eq.trans (b := bytesets_Class_1.p0 (fuel) a.1 a.2.1 a.2.2.1) (congrFun (congrFun (congrFun (bytesets_Class_1.o0 (fuel)) a.1) a.2.1) a.2.2.1) (by kernel_rfl))
theorem ok_bytesets_Class_1 : FnOk Try.prog F_bytesets_Class_1 23 := fn_of (hn := bytesets_Class_1.h) (E := bytesets_Class_1.E) cxOk (tysT _) fs_nil follows Try.func23 (by kernel_rfl) (fun a r h => ⟨fuel, Eq.trans (w_bytesets_Class_1 a) h⟩)
namespace bytesets_those_l23
noncomputable def E : Env cx := { tys := tys, fs := fsOf [(23, F_bytesets_Class_1), (24, F_bytesets_put)] }
abbrev R := Option ((List (Int)) × (Unit))
abbrev C := Exit → ST cx → R
noncomputable def b : Code := bodyC Try.f22
noncomputable def h : Hint := { vs := [0, 2, 3, 4, 5], nil := [], cuts := [(3, ([0, 2, 3, 5], [2, 3]), ([2, 3], [2, 3])), (7, ([0, 2, 3, 5], [2, 3]), ([0, 2, 3, 5], [2, 3])), (8, ([2, 3], [2, 3]), ([2, 3], [2, 3]))], ret := ([2], [2, 3]), ords := [] }
noncomputable def K0 : C := fin (S := cx) E Try.f22.results.toList (.agg (.arr 4 (.int .u64))) .ro [] []
noncomputable def c0 : Code := subC b [1]
noncomputable def K1 (k : Nat) : C := outD h c0 K0
noncomputable def K2 (k : Nat) : C := seqC E h k c0 K0
noncomputable def c1 : Code := subC b [1, 1]
noncomputable def K3 (k : Nat) : C := outD h c1 (K1 k)
noncomputable def K4 (k : Nat) : C := seqC E h k c1 (K1 k)
noncomputable def c2 : Code := subC b [1, 1, 1]
noncomputable def K5 (k : Nat) : C := outD h c2 (K3 k)
noncomputable def K6 (k : Nat) : C := seqC E h k c2 (K3 k)
noncomputable def c3 : Code := subC b [1, 1, 0, 1]
noncomputable def K7 (k : Nat) : C := outD h c3 (K6 k)
noncomputable def K8 (k : Nat) : C := seqC E h k c3 (K6 k)
noncomputable def K9 (k : Nat) : C := blockK 0 (K7 k)
noncomputable def c4 : Code := subC b [1, 1, 0, 1, 0, 0]
noncomputable def K10 (k n1 : Nat) : C := loopD E h k c4 (K9 k) n1
noncomputable def c5 : Code := subC b [1, 1, 0, 1, 0, 0, 1]
noncomputable def K11 (k n1 : Nat) : C := outD h c5 (K10 k n1)
noncomputable def K12 (k n1 : Nat) : C := seqC E h k c5 (K10 k n1)
noncomputable def c6 : Code := subC b [1, 1, 0, 1, 0, 0, 1, 1]
noncomputable def K13 (k n1 : Nat) : C := outD h c6 (K11 k n1)
noncomputable def K14 (k n1 : Nat) : C := seqC E h k c6 (K11 k n1)
noncomputable def c7 : Code := subC b [1, 1, 0, 1, 0, 0, 1, 1, 1]
noncomputable def K15 (k n1 : Nat) : C := outD h c7 (K13 k n1)
noncomputable def K16 (k n1 : Nat) : C := seqC E h k c7 (K13 k n1)
noncomputable def K17 (k n1 : Nat) : C := blockK 1 (K16 k n1)
noncomputable def c8 : Code := subC b [1, 1, 0, 1, 0, 0, 1, 1, 0, 0, 1]
noncomputable def K18 (k n1 : Nat) : C := outD h c8 (K17 k n1)
noncomputable def K19 (k n1 : Nat) : C := seqC E h k c8 (K17 k n1)
noncomputable def c9 : Code := subC b [1, 1, 0, 1, 0, 0, 1, 1, 0, 0, 1, 1]
noncomputable def K20 (k n1 : Nat) : C := outD h c9 (K18 k n1)
noncomputable def K21 (k n1 : Nat) : C := seqC E h k c9 (K18 k n1)
noncomputable def c10 : Code := subC b [1, 1, 1, 1]
noncomputable def K22 (k : Nat) : C := outD h c10 (K5 k)
noncomputable def K23 (k : Nat) : C := seqC E h k c10 (K5 k)
abbrev T2 := ((List (Int)) × ((Int) × (Unit))) → Int → (List (Int)) → (List (Int)) → R
abbrev T3 := (List (Int)) → (List (Int)) → R
abbrev T1 := ((List (Int)) × ((Int) × (Unit))) → Int → (List (Int)) → (List (Int)) → R
abbrev T0 := ((List (Int)) × ((Int) × (Unit))) → R
abbrev s2 : ((List (Int)) × ((Int) × (Unit))) → Int → (List (Int)) → (List (Int)) → ST cx := fun (x0 : (List (Int)) × ((Int) × (Unit))) (x5 : Int) (m2 m3 : List (Int)) => ({ vars := [(0, .v (.clo 23 (.pair (.box (.agg (.arr 256 (.int .u8)))) (.pair (.box (.int .i64)) .unit))) .ro x0), (2, .addr (.mem 2) []), (3, .addr (.mem 3) []), (5, .v (.int .i64) .ro x5)], scr := [], mems := [(2, ⟨(.agg (.arr 4 (.int .u64))), .ro, m2⟩), (3, ⟨(.agg (.arr 4 (.int .u64))), .ro, m3⟩)] } : ST cx)
noncomputable def u2 (k n1 : Nat) : T2 := fun (x0 : (List (Int)) × ((Int) × (Unit))) (x5 : Int) (m2 m3 : List (Int)) => uK (run E h k c7) (s2 x0 x5 m2 m3) (K15 k n1)
noncomputable abbrev l2 (k n1 : Nat) : T2 := fun (x0 : (List (Int)) × ((Int) × (Unit))) (x5 : Int) (m2 m3 : List (Int)) => cutK (run E h k c7) (s2 x0 x5 m2 m3) (K15 k n1)
abbrev s3 : (List (Int)) → (List (Int)) → ST cx := fun (m2 m3 : List (Int)) => ({ vars := [(2, .addr (.mem 2) []), (3, .addr (.mem 3) [])], scr := [], mems := [(2, ⟨(.agg (.arr 4 (.int .u64))), .ro, m2⟩), (3, ⟨(.agg (.arr 4 (.int .u64))), .ro, m3⟩)] } : ST cx)
noncomputable def u3 (k : Nat) : T3 := fun (m2 m3 : List (Int)) => uK (run E h k c2) (s3 m2 m3) (K5 k)
noncomputable abbrev l3 (k : Nat) : T3 := fun (m2 m3 : List (Int)) => cutK (run E h k c2) (s3 m2 m3) (K5 k)
abbrev s1 : ((List (Int)) × ((Int) × (Unit))) → Int → (List (Int)) → (List (Int)) → ST cx := fun (x0 : (List (Int)) × ((Int) × (Unit))) (x5 : Int) (m2 m3 : List (Int)) => ({ vars := [(0, .v (.clo 23 (.pair (.box (.agg (.arr 256 (.int .u8)))) (.pair (.box (.int .i64)) .unit))) .ro x0), (2, .addr (.mem 2) []), (3, .addr (.mem 3) []), (5, .v (.int .i64) .ro x5)], scr := [], mems := [(2, ⟨(.agg (.arr 4 (.int .u64))), .ro, m2⟩), (3, ⟨(.agg (.arr 4 (.int .u64))), .ro, m3⟩)] } : ST cx)
noncomputable def u1 (k n1 : Nat) : T1 := fun (x0 : (List (Int)) × ((Int) × (Unit))) (x5 : Int) (m2 m3 : List (Int)) => uK (loopL E h k c4 (K9 k) n1) (s1 x0 x5 m2 m3) ()
noncomputable abbrev l1 (k n1 : Nat) : T1 := fun (x0 : (List (Int)) × ((Int) × (Unit))) (x5 : Int) (m2 m3 : List (Int)) => cutK (loopL E h k c4 (K9 k) n1) (s1 x0 x5 m2 m3) ()
noncomputable def u0 (k : Nat) : T0 := fun (x0 : (List (Int)) × ((Int) × (Unit))) => runOf (S := cx) E h k Try.f22 [.val (.clo 23 (.pair (.box (.agg (.arr 256 (.int .u8)))) (.pair (.box (.int .i64)) .unit)))] (.agg (.arr 4 (.int .u64))) .ro (x0, ())
def t2 (f1 : T1) : T2 := fun (x0 : (List (Int)) × ((Int) × (Unit))) (x5 : Int) (m2 m3 : List (Int)) => 
  (f1 x0 (w64 (x5 + (1 : Int))) m2 m3)
theorem e2 (k n1 : Nat) : u2 k n1 = t2 (l1 k n1) := by kernel_rfl
theorem g2 (k n1 : Nat) : l2 k n1 = u2 k n1 := funext fun _ => funext fun _ => funext fun _ => funext fun _ => cut_u _ _ _
theorem d2 {x1 y1 : T1} (h1 : x1 = y1) : t2 x1 = t2 y1 := by subst h1; rfl
def p2 (k : Nat) (a1 : T1) : T2 := t2 a1
theorem o2 (k n1 : Nat) (a1 : T1) (h1 : l1 k n1 = a1) : l2 k n1 = p2 k a1 := (Eq.trans (b := u2 k n1) (g2 k n1) (Eq.trans (b := t2 (l1 k n1)) (e2 k n1) (Eq.trans (b := t2 a1) (d2 h1) (by kernel_rfl))))
def t3 : T3 := fun (m2 m3 : List (Int)) => 
  (some (m3, ()))
theorem e3 (k : Nat) : u3 k = t3 := by kernel_rfl
theorem g3 (k : Nat) : l3 k = u3 k := funext fun _ => funext fun _ => cut_u _ _ _
def p3 (k : Nat) : T3 := t3
theorem o3 (k : Nat) : l3 k = p3 k := (Eq.trans (b := u3 k) (g3 k) (Eq.trans (b := t3) (e3 k) (by kernel_rfl)))
def t1 (f2 : T2) (f3 : T3) : T1 := fun (x0 : (List (Int)) × ((Int) × (Unit))) (x5 : Int) (m2 m3 : List (Int)) => 
  (iteB (decide (x5 < (256 : Int))) (bindR (s_bytesets_Class_1 ((w8 (x5)), (x0.1, (x0.2.1, ())))) fun r1 => (iteB r1.1 (bindR (s_bytesets_put (m3, ((w8 (x5)), ()))) fun r2 => (f2 x0 x5 m2 r2.2.1)) (f2 x0 x5 m2 m3))) (f3 m2 m3))
theorem e1 (k n1 : Nat) : u1 k (n1 + 1) = t1 (l2 k n1) (l3 k) := by kernel_rfl
theorem g1 (k n1 : Nat) : l1 k (n1 + 1) = u1 k (n1 + 1) := funext fun _ => funext fun _ => funext fun _ => funext fun _ => cut_u _ _ _
theorem d1 {x2 y2 : T2} {x3 y3 : T3} (h2 : x2 = y2) (h3 : x3 = y3) : t1 x2 x3 = t1 y2 y3 := by subst h2; subst h3; rfl
def p1 (k : Nat) : Nat → T1
  | 0 => fun _ _ _ _ => none
  | n1 + 1 => t1 (p2 k (p1 k n1)) (p3 k)
theorem o1 (k : Nat) : ∀ n1, l1 k n1 = p1 k n1 := by
  intro n1
  induction n1 with
  | zero => kernel_rfl
  | succ n1 ih => exact (Eq.trans (b := u1 k (n1 + 1)) (g1 k n1) (Eq.trans (b := t1 (l2 k n1) (l3 k)) (e1 k n1) (Eq.trans (b := t1 (p2 k (p1 k n1)) (p3 k)) (d1 (o2 k n1 (p1 k n1) ih) (o3 k)) (by kernel_rfl))))
def t0 (f1 : T1) : T0 := fun (x0 : (List (Int)) × ((Int) × (Unit))) => 
  (f1 x0 (0 : Int) (List.replicate 4 (0 : Int)) (List.replicate 4 (0 : Int)))
theorem e0 (k : Nat) : u0 k = t0 (l1 k k) := by kernel_rfl
theorem d0 {x1 y1 : T1} (h1 : x1 = y1) : t0 x1 = t0 y1 := by subst h1; rfl
def p0 (k : Nat) : T0 := t0 (p1 k k)
theorem o0 (k : Nat) : u0 k = p0 k := (Eq.trans (b := t0 (l1 k k)) (e0 k) (Eq.trans (b := t0 (p1 k k)) (d0 (o1 k k)) (by kernel_rfl)))
end bytesets_those_l23
def s_bytesets_those_l23 (a : ((List (Int)) × ((Int) × (Unit))) × (Unit)) : Option ((List (Int)) × (Unit)) := bytesets_those_l23.p0 (fuel) a.1
noncomputable def F_bytesets_those_l23 : FSpec cx.toNm := { ps := [.val (.clo 23 (.pair (.box (.agg (.arr 256 (.int .u8)))) (.pair (.box (.int .i64)) .unit)))], nres := 1, rt := (.agg (.arr 4 (.int .u64))), rm := .ro, f := s_bytesets_those_l23 }
theorem w_bytesets_those_l23 (a : ((List (Int)) × ((Int) × (Unit))) × (Unit)) : runOf (S := cx) bytesets_those_l23.E bytesets_those_l23.h (fuel) Try.f22 F_bytesets_those_l23.ps F_bytesets_those_l23.rt F_bytesets_those_l23.rm a = F_bytesets_those_l23.f a := Eq.trans (b := bytesets_those_l23.u0 (fuel) a.1) (by kernel_rfl) (Eq.trans (b := bytesets_those_l23.p0 (fuel) a.1) (congrFun (bytesets_those_l23.o0 (fuel)) a.1) (by kernel_rfl))
theorem ok_bytesets_those_l23 : FnOk Try.prog F_bytesets_those_l23 22 := fn_of (hn := bytesets_those_l23.h) (E := bytesets_those_l23.E) cxOk (tysT _) (fs_cons ok_bytesets_Class_1 (fs_cons ok_bytesets_put fs_nil)) follows Try.func22 (by kernel_rfl) (fun a r h => ⟨fuel, Eq.trans (w_bytesets_those_l23 a) h⟩)
namespace bytesets_Range_1
noncomputable def E : Env cx := { tys := tys, fs := fsOf [] }
abbrev R := Option ((Bool) × (Unit))
abbrev C := Exit → ST cx → R
noncomputable def b : Code := bodyC Try.f25
noncomputable def h : Hint := { vs := [0, 1, 2, 4], nil := [], cuts := [], ret := ([4], []), ords := [] }
noncomputable def K0 : C := fin (S := cx) E Try.f25.results.toList .bool .ro [] []
noncomputable def c0 : Code := subC b [1]
noncomputable def K1 (k : Nat) : C := outD h c0 K0
noncomputable def K2 (k : Nat) : C := seqC E h k c0 K0
noncomputable def c1 : Code := subC b [1, 1]
noncomputable def K3 (k : Nat) : C := outD h c1 (K1 k)
noncomputable def K4 (k : Nat) : C := seqC E h k c1 (K1 k)
abbrev T0 := Int → Int → Int → R
noncomputable def u0 (k : Nat) : T0 := fun (x0 x1 x2 : Int) => runOf (S := cx) E h k Try.f25 [.val (.int .u8), .val (.box (.int .u8)), .val (.box (.int .u8))] .bool .ro (x0, x1, x2, ())
def t0 : T0 := fun (x0 x1 x2 : Int) => 
  (iteB (decide (x1 ≤ x0)) (some ((decide (x0 ≤ x2)), ())) (some (false, ())))
theorem e0 (k : Nat) : u0 k = t0 := by kernel_rfl
def p0 (k : Nat) : T0 := t0
theorem o0 (k : Nat) : u0 k = p0 k := (Eq.trans (b := t0) (e0 k) (by kernel_rfl))
end bytesets_Range_1
def s_bytesets_Range_1 (a : (Int) × ((Int) × ((Int) × (Unit)))) : Option ((Bool) × (Unit)) := bytesets_Range_1.p0 (fuel) a.1 a.2.1 a.2.2.1
noncomputable def F_bytesets_Range_1 : FSpec cx.toNm := { ps := [.val (.int .u8), .val (.box (.int .u8)), .val (.box (.int .u8))], nres := 1, rt := .bool, rm := .ro, f := s_bytesets_Range_1 }
theorem w_bytesets_Range_1 (a : (Int) × ((Int) × ((Int) × (Unit)))) : runOf (S := cx) bytesets_Range_1.E bytesets_Range_1.h (fuel) Try.f25 F_bytesets_Range_1.ps F_bytesets_Range_1.rt F_bytesets_Range_1.rm a = F_bytesets_Range_1.f a := Eq.trans (b := bytesets_Range_1.u0 (fuel) a.1 a.2.1 a.2.2.1) (by kernel_rfl) (Eq.trans (b := bytesets_Range_1.p0 (fuel) a.1 a.2.1 a.2.2.1) (congrFun (congrFun (congrFun (bytesets_Range_1.o0 (fuel)) a.1) a.2.1) a.2.2.1) (by kernel_rfl))
theorem ok_bytesets_Range_1 : FnOk Try.prog F_bytesets_Range_1 25 := fn_of (hn := bytesets_Range_1.h) (E := bytesets_Range_1.E) cxOk (tysT _) fs_nil follows Try.func25 (by kernel_rfl) (fun a r h => ⟨fuel, Eq.trans (w_bytesets_Range_1 a) h⟩)
namespace bytesets_thosex_l25
noncomputable def E : Env cx := { tys := tys, fs := fsOf [(24, F_bytesets_put), (25, F_bytesets_Range_1)] }
abbrev R := Option ((List (Int)) × (Unit))
abbrev C := Exit → ST cx → R
noncomputable def b : Code := bodyC Try.f22
noncomputable def h : Hint := { vs := [0, 2, 3, 4, 5], nil := [], cuts := [(3, ([0, 2, 3, 5], [2, 3]), ([2, 3], [2, 3])), (7, ([0, 2, 3, 5], [2, 3]), ([0, 2, 3, 5], [2, 3])), (8, ([2, 3], [2, 3]), ([2, 3], [2, 3]))], ret := ([2], [2, 3]), ords := [] }
noncomputable def K0 : C := fin (S := cx) E Try.f22.results.toList (.agg (.arr 4 (.int .u64))) .ro [] []
noncomputable def c0 : Code := subC b [1]
noncomputable def K1 (k : Nat) : C := outD h c0 K0
noncomputable def K2 (k : Nat) : C := seqC E h k c0 K0
noncomputable def c1 : Code := subC b [1, 1]
noncomputable def K3 (k : Nat) : C := outD h c1 (K1 k)
noncomputable def K4 (k : Nat) : C := seqC E h k c1 (K1 k)
noncomputable def c2 : Code := subC b [1, 1, 1]
noncomputable def K5 (k : Nat) : C := outD h c2 (K3 k)
noncomputable def K6 (k : Nat) : C := seqC E h k c2 (K3 k)
noncomputable def c3 : Code := subC b [1, 1, 0, 1]
noncomputable def K7 (k : Nat) : C := outD h c3 (K6 k)
noncomputable def K8 (k : Nat) : C := seqC E h k c3 (K6 k)
noncomputable def K9 (k : Nat) : C := blockK 0 (K7 k)
noncomputable def c4 : Code := subC b [1, 1, 0, 1, 0, 0]
noncomputable def K10 (k n1 : Nat) : C := loopD E h k c4 (K9 k) n1
noncomputable def c5 : Code := subC b [1, 1, 0, 1, 0, 0, 1]
noncomputable def K11 (k n1 : Nat) : C := outD h c5 (K10 k n1)
noncomputable def K12 (k n1 : Nat) : C := seqC E h k c5 (K10 k n1)
noncomputable def c6 : Code := subC b [1, 1, 0, 1, 0, 0, 1, 1]
noncomputable def K13 (k n1 : Nat) : C := outD h c6 (K11 k n1)
noncomputable def K14 (k n1 : Nat) : C := seqC E h k c6 (K11 k n1)
noncomputable def c7 : Code := subC b [1, 1, 0, 1, 0, 0, 1, 1, 1]
noncomputable def K15 (k n1 : Nat) : C := outD h c7 (K13 k n1)
noncomputable def K16 (k n1 : Nat) : C := seqC E h k c7 (K13 k n1)
noncomputable def K17 (k n1 : Nat) : C := blockK 1 (K16 k n1)
noncomputable def c8 : Code := subC b [1, 1, 0, 1, 0, 0, 1, 1, 0, 0, 1]
noncomputable def K18 (k n1 : Nat) : C := outD h c8 (K17 k n1)
noncomputable def K19 (k n1 : Nat) : C := seqC E h k c8 (K17 k n1)
noncomputable def c9 : Code := subC b [1, 1, 0, 1, 0, 0, 1, 1, 0, 0, 1, 1]
noncomputable def K20 (k n1 : Nat) : C := outD h c9 (K18 k n1)
noncomputable def K21 (k n1 : Nat) : C := seqC E h k c9 (K18 k n1)
noncomputable def c10 : Code := subC b [1, 1, 1, 1]
noncomputable def K22 (k : Nat) : C := outD h c10 (K5 k)
noncomputable def K23 (k : Nat) : C := seqC E h k c10 (K5 k)
abbrev T2 := ((Int) × ((Int) × (Unit))) → Int → (List (Int)) → (List (Int)) → R
abbrev T3 := (List (Int)) → (List (Int)) → R
abbrev T1 := ((Int) × ((Int) × (Unit))) → Int → (List (Int)) → (List (Int)) → R
abbrev T0 := ((Int) × ((Int) × (Unit))) → R
abbrev s2 : ((Int) × ((Int) × (Unit))) → Int → (List (Int)) → (List (Int)) → ST cx := fun (x0 : (Int) × ((Int) × (Unit))) (x5 : Int) (m2 m3 : List (Int)) => ({ vars := [(0, .v (.clo 25 (.pair (.box (.int .u8)) (.pair (.box (.int .u8)) .unit))) .ro x0), (2, .addr (.mem 2) []), (3, .addr (.mem 3) []), (5, .v (.int .i64) .ro x5)], scr := [], mems := [(2, ⟨(.agg (.arr 4 (.int .u64))), .ro, m2⟩), (3, ⟨(.agg (.arr 4 (.int .u64))), .ro, m3⟩)] } : ST cx)
noncomputable def u2 (k n1 : Nat) : T2 := fun (x0 : (Int) × ((Int) × (Unit))) (x5 : Int) (m2 m3 : List (Int)) => uK (run E h k c7) (s2 x0 x5 m2 m3) (K15 k n1)
noncomputable abbrev l2 (k n1 : Nat) : T2 := fun (x0 : (Int) × ((Int) × (Unit))) (x5 : Int) (m2 m3 : List (Int)) => cutK (run E h k c7) (s2 x0 x5 m2 m3) (K15 k n1)
abbrev s3 : (List (Int)) → (List (Int)) → ST cx := fun (m2 m3 : List (Int)) => ({ vars := [(2, .addr (.mem 2) []), (3, .addr (.mem 3) [])], scr := [], mems := [(2, ⟨(.agg (.arr 4 (.int .u64))), .ro, m2⟩), (3, ⟨(.agg (.arr 4 (.int .u64))), .ro, m3⟩)] } : ST cx)
noncomputable def u3 (k : Nat) : T3 := fun (m2 m3 : List (Int)) => uK (run E h k c2) (s3 m2 m3) (K5 k)
noncomputable abbrev l3 (k : Nat) : T3 := fun (m2 m3 : List (Int)) => cutK (run E h k c2) (s3 m2 m3) (K5 k)
abbrev s1 : ((Int) × ((Int) × (Unit))) → Int → (List (Int)) → (List (Int)) → ST cx := fun (x0 : (Int) × ((Int) × (Unit))) (x5 : Int) (m2 m3 : List (Int)) => ({ vars := [(0, .v (.clo 25 (.pair (.box (.int .u8)) (.pair (.box (.int .u8)) .unit))) .ro x0), (2, .addr (.mem 2) []), (3, .addr (.mem 3) []), (5, .v (.int .i64) .ro x5)], scr := [], mems := [(2, ⟨(.agg (.arr 4 (.int .u64))), .ro, m2⟩), (3, ⟨(.agg (.arr 4 (.int .u64))), .ro, m3⟩)] } : ST cx)
noncomputable def u1 (k n1 : Nat) : T1 := fun (x0 : (Int) × ((Int) × (Unit))) (x5 : Int) (m2 m3 : List (Int)) => uK (loopL E h k c4 (K9 k) n1) (s1 x0 x5 m2 m3) ()
noncomputable abbrev l1 (k n1 : Nat) : T1 := fun (x0 : (Int) × ((Int) × (Unit))) (x5 : Int) (m2 m3 : List (Int)) => cutK (loopL E h k c4 (K9 k) n1) (s1 x0 x5 m2 m3) ()
noncomputable def u0 (k : Nat) : T0 := fun (x0 : (Int) × ((Int) × (Unit))) => runOf (S := cx) E h k Try.f22 [.val (.clo 25 (.pair (.box (.int .u8)) (.pair (.box (.int .u8)) .unit)))] (.agg (.arr 4 (.int .u64))) .ro (x0, ())
def t2 (f1 : T1) : T2 := fun (x0 : (Int) × ((Int) × (Unit))) (x5 : Int) (m2 m3 : List (Int)) => 
  (f1 x0 (w64 (x5 + (1 : Int))) m2 m3)
theorem e2 (k n1 : Nat) : u2 k n1 = t2 (l1 k n1) := by kernel_rfl
theorem g2 (k n1 : Nat) : l2 k n1 = u2 k n1 := funext fun _ => funext fun _ => funext fun _ => funext fun _ => cut_u _ _ _
theorem d2 {x1 y1 : T1} (h1 : x1 = y1) : t2 x1 = t2 y1 := by subst h1; rfl
def p2 (k : Nat) (a1 : T1) : T2 := t2 a1
theorem o2 (k n1 : Nat) (a1 : T1) (h1 : l1 k n1 = a1) : l2 k n1 = p2 k a1 := (Eq.trans (b := u2 k n1) (g2 k n1) (Eq.trans (b := t2 (l1 k n1)) (e2 k n1) (Eq.trans (b := t2 a1) (d2 h1) (by kernel_rfl))))
def t3 : T3 := fun (m2 m3 : List (Int)) => 
  (some (m3, ()))
theorem e3 (k : Nat) : u3 k = t3 := by kernel_rfl
theorem g3 (k : Nat) : l3 k = u3 k := funext fun _ => funext fun _ => cut_u _ _ _
def p3 (k : Nat) : T3 := t3
theorem o3 (k : Nat) : l3 k = p3 k := (Eq.trans (b := u3 k) (g3 k) (Eq.trans (b := t3) (e3 k) (by kernel_rfl)))
def t1 (f2 : T2) (f3 : T3) : T1 := fun (x0 : (Int) × ((Int) × (Unit))) (x5 : Int) (m2 m3 : List (Int)) => 
  (iteB (decide (x5 < (256 : Int))) (bindR (s_bytesets_Range_1 ((w8 (x5)), (x0.1, (x0.2.1, ())))) fun r1 => (iteB r1.1 (bindR (s_bytesets_put (m3, ((w8 (x5)), ()))) fun r2 => (f2 x0 x5 m2 r2.2.1)) (f2 x0 x5 m2 m3))) (f3 m2 m3))
theorem e1 (k n1 : Nat) : u1 k (n1 + 1) = t1 (l2 k n1) (l3 k) := by kernel_rfl
theorem g1 (k n1 : Nat) : l1 k (n1 + 1) = u1 k (n1 + 1) := funext fun _ => funext fun _ => funext fun _ => funext fun _ => cut_u _ _ _
theorem d1 {x2 y2 : T2} {x3 y3 : T3} (h2 : x2 = y2) (h3 : x3 = y3) : t1 x2 x3 = t1 y2 y3 := by subst h2; subst h3; rfl
def p1 (k : Nat) : Nat → T1
  | 0 => fun _ _ _ _ => none
  | n1 + 1 => t1 (p2 k (p1 k n1)) (p3 k)
theorem o1 (k : Nat) : ∀ n1, l1 k n1 = p1 k n1 := by
  intro n1
  induction n1 with
  | zero => kernel_rfl
  | succ n1 ih => exact (Eq.trans (b := u1 k (n1 + 1)) (g1 k n1) (Eq.trans (b := t1 (l2 k n1) (l3 k)) (e1 k n1) (Eq.trans (b := t1 (p2 k (p1 k n1)) (p3 k)) (d1 (o2 k n1 (p1 k n1) ih) (o3 k)) (by kernel_rfl))))
def t0 (f1 : T1) : T0 := fun (x0 : (Int) × ((Int) × (Unit))) => 
  (f1 x0 (0 : Int) (List.replicate 4 (0 : Int)) (List.replicate 4 (0 : Int)))
theorem e0 (k : Nat) : u0 k = t0 (l1 k k) := by kernel_rfl
theorem d0 {x1 y1 : T1} (h1 : x1 = y1) : t0 x1 = t0 y1 := by subst h1; rfl
def p0 (k : Nat) : T0 := t0 (p1 k k)
theorem o0 (k : Nat) : u0 k = p0 k := (Eq.trans (b := t0 (l1 k k)) (e0 k) (Eq.trans (b := t0 (p1 k k)) (d0 (o1 k k)) (by kernel_rfl)))
end bytesets_thosex_l25
def s_bytesets_thosex_l25 (a : ((Int) × ((Int) × (Unit))) × (Unit)) : Option ((List (Int)) × (Unit)) := bytesets_thosex_l25.p0 (fuel) a.1
noncomputable def F_bytesets_thosex_l25 : FSpec cx.toNm := { ps := [.val (.clo 25 (.pair (.box (.int .u8)) (.pair (.box (.int .u8)) .unit)))], nres := 1, rt := (.agg (.arr 4 (.int .u64))), rm := .ro, f := s_bytesets_thosex_l25 }
theorem w_bytesets_thosex_l25 (a : ((Int) × ((Int) × (Unit))) × (Unit)) : runOf (S := cx) bytesets_thosex_l25.E bytesets_thosex_l25.h (fuel) Try.f22 F_bytesets_thosex_l25.ps F_bytesets_thosex_l25.rt F_bytesets_thosex_l25.rm a = F_bytesets_thosex_l25.f a := Eq.trans (b := bytesets_thosex_l25.u0 (fuel) a.1) (by kernel_rfl) (Eq.trans (b := bytesets_thosex_l25.p0 (fuel) a.1) (congrFun (bytesets_thosex_l25.o0 (fuel)) a.1) (by kernel_rfl))
theorem ok_bytesets_thosex_l25 : FnOk Try.prog F_bytesets_thosex_l25 22 := fn_of (hn := bytesets_thosex_l25.h) (E := bytesets_thosex_l25.E) cxOk (tysT _) (fs_cons ok_bytesets_put (fs_cons ok_bytesets_Range_1 fs_nil)) follows Try.func22 (by kernel_rfl) (fun a r h => ⟨fuel, Eq.trans (w_bytesets_thosex_l25 a) h⟩)
namespace bytesets_Range
noncomputable def E : Env cx := { tys := tys, fs := fsOf [(22, F_bytesets_thosex_l25)] }
abbrev R := Option ((List (Int)) × (Unit))
abbrev C := Exit → ST cx → R
noncomputable def b : Code := bodyC Try.f17
noncomputable def h : Hint := { vs := [0, 1, 2, 3, 4], nil := [], cuts := [], ret := ([4], [2, 3, 4]), ords := [] }
noncomputable def K0 : C := fin (S := cx) E Try.f17.results.toList (.agg (.arr 4 (.int .u64))) .ro [] []
noncomputable def c0 : Code := subC b [1]
noncomputable def K1 (k : Nat) : C := outD h c0 K0
noncomputable def K2 (k : Nat) : C := seqC E h k c0 K0
noncomputable def c1 : Code := subC b [1, 1]
noncomputable def K3 (k : Nat) : C := outD h c1 (K1 k)
noncomputable def K4 (k : Nat) : C := seqC E h k c1 (K1 k)
abbrev T0 := Int → Int → R
noncomputable def u0 (k : Nat) : T0 := fun (x0 x1 : Int) => runOf (S := cx) E h k Try.f17 [.val (.int .u8), .val (.int .u8)] (.agg (.arr 4 (.int .u64))) .ro (x0, x1, ())
def t0 : T0 := fun (x0 x1 : Int) => 
  (bindR (s_bytesets_thosex_l25 ((x0, (x1, ())), ())) fun r1 => (some (r1.1, ())))
theorem e0 (k : Nat) : u0 k = t0 := by kernel_rfl
def p0 (k : Nat) : T0 := t0
theorem o0 (k : Nat) : u0 k = p0 k := (Eq.trans (b := t0) (e0 k) (by kernel_rfl))
end bytesets_Range
def s_bytesets_Range (a : (Int) × ((Int) × (Unit))) : Option ((List (Int)) × (Unit)) := bytesets_Range.p0 (fuel) a.1 a.2.1
noncomputable def F_bytesets_Range : FSpec cx.toNm := { ps := [.val (.int .u8), .val (.int .u8)], nres := 1, rt := (.agg (.arr 4 (.int .u64))), rm := .ro, f := s_bytesets_Range }
theorem w_bytesets_Range (a : (Int) × ((Int) × (Unit))) : runOf (S := cx) bytesets_Range.E bytesets_Range.h (fuel) Try.f17 F_bytesets_Range.ps F_bytesets_Range.rt F_bytesets_Range.rm a = F_bytesets_Range.f a := Eq.trans (b := bytesets_Range.u0 (fuel) a.1 a.2.1) (by kernel_rfl) (Eq.trans (b := bytesets_Range.p0 (fuel) a.1 a.2.1) (congrFun (congrFun (bytesets_Range.o0 (fuel)) a.1) a.2.1) (by kernel_rfl))
theorem ok_bytesets_Range : FnOk Try.prog F_bytesets_Range 17 := fn_of (hn := bytesets_Range.h) (E := bytesets_Range.E) cxOk (tysT _) (fs_cons ok_bytesets_thosex_l25 fs_nil) follows Try.func17 (by kernel_rfl) (fun a r h => ⟨fuel, Eq.trans (w_bytesets_Range a) h⟩)
namespace math_bits_OnesCount64
noncomputable def E : Env cx := { tys := tys, fs := fsOf [] }
abbrev R := Option ((Int) × (Unit))
abbrev C := Exit → ST cx → R
noncomputable def b : Code := bodyC Try.f26
noncomputable def h : Hint := { vs := [0, 2], nil := [], cuts := [], ret := ([2], []), ords := [] }
noncomputable def K0 : C := fin (S := cx) E Try.f26.results.toList (.int .i64) .ro [] []
noncomputable def c0 : Code := subC b [1]
noncomputable def K1 (k : Nat) : C := outD h c0 K0
noncomputable def K2 (k : Nat) : C := seqC E h k c0 K0
noncomputable def c1 : Code := subC b [1, 1]
noncomputable def K3 (k : Nat) : C := outD h c1 (K1 k)
noncomputable def K4 (k : Nat) : C := seqC E h k c1 (K1 k)
noncomputable def c2 : Code := subC b [1, 1, 1]
noncomputable def K5 (k : Nat) : C := outD h c2 (K3 k)
noncomputable def K6 (k : Nat) : C := seqC E h k c2 (K3 k)
noncomputable def c3 : Code := subC b [1, 1, 1, 1]
noncomputable def K7 (k : Nat) : C := outD h c3 (K5 k)
noncomputable def K8 (k : Nat) : C := seqC E h k c3 (K5 k)
noncomputable def c4 : Code := subC b [1, 1, 1, 1, 1]
noncomputable def K9 (k : Nat) : C := outD h c4 (K7 k)
noncomputable def K10 (k : Nat) : C := seqC E h k c4 (K7 k)
noncomputable def c5 : Code := subC b [1, 1, 1, 1, 1, 1]
noncomputable def K11 (k : Nat) : C := outD h c5 (K9 k)
noncomputable def K12 (k : Nat) : C := seqC E h k c5 (K9 k)
noncomputable def c6 : Code := subC b [1, 1, 1, 1, 1, 1, 1]
noncomputable def K13 (k : Nat) : C := outD h c6 (K11 k)
noncomputable def K14 (k : Nat) : C := seqC E h k c6 (K11 k)
noncomputable def c7 : Code := subC b [1, 1, 1, 1, 1, 1, 1, 1]
noncomputable def K15 (k : Nat) : C := outD h c7 (K13 k)
noncomputable def K16 (k : Nat) : C := seqC E h k c7 (K13 k)
abbrev T0 := Int → R
noncomputable def u0 (k : Nat) : T0 := fun (x0 : Int) => runOf (S := cx) E h k Try.f26 [.val (.int .u64)] (.int .i64) .ro (x0, ())
def t0 : T0 := fun (x0 : Int) => 
  (some ((bitI .and .i64 (w64 ((IntKind.wrap .u64 ((IntKind.wrap .u64 ((IntKind.wrap .u64 ((bitI .and .u64 (IntKind.wrap .u64 ((shrI .u64 (IntKind.wrap .u64 ((bitI .and .u64 (shrI .u64 (IntKind.wrap .u64 ((bitI .and .u64 (shrI .u64 x0 (1 : Int)) (6148914691236517205 : Int)) + (bitI .and .u64 x0 (6148914691236517205 : Int)))) (2 : Int)) (3689348814741910323 : Int)) + (bitI .and .u64 (IntKind.wrap .u64 ((bitI .and .u64 (shrI .u64 x0 (1 : Int)) (6148914691236517205 : Int)) + (bitI .and .u64 x0 (6148914691236517205 : Int)))) (3689348814741910323 : Int)))) (4 : Int)) + (IntKind.wrap .u64 ((bitI .and .u64 (shrI .u64 (IntKind.wrap .u64 ((bitI .and .u64 (shrI .u64 x0 (1 : Int)) (6148914691236517205 : Int)) + (bitI .and .u64 x0 (6148914691236517205 : Int)))) (2 : Int)) (3689348814741910323 : Int)) + (bitI .and .u64 (IntKind.wrap .u64 ((bitI .and .u64 (shrI .u64 x0 (1 : Int)) (6148914691236517205 : Int)) + (bitI .and .u64 x0 (6148914691236517205 : Int)))) (3689348814741910323 : Int)))))) (1085102592571150095 : Int)) + (shrI .u64 (bitI .and .u64 (IntKind.wrap .u64 ((shrI .u64 (IntKind.wrap .u64 ((bitI .and .u64 (shrI .u64 (IntKind.wrap .u64 ((bitI .and .u64 (shrI .u64 x0 (1 : Int)) (6148914691236517205 : Int)) + (bitI .and .u64 x0 (6148914691236517205 : Int)))) (2 : Int)) (3689348814741910323 : Int)) + (bitI .and .u64 (IntKind.wrap .u64 ((bitI .and .u64 (shrI .u64 x0 (1 : Int)) (6148914691236517205 : Int)) + (bitI .and .u64 x0 (6148914691236517205 : Int)))) (3689348814741910323 : Int)))) (4 : Int)) + (IntKind.wrap .u64 ((bitI .and .u64 (shrI .u64 (IntKind.wrap .u64 ((bitI .and .u64 (shrI .u64 x0 (1 : Int)) (6148914691236517205 : Int)) + (bitI .and .u64 x0 (6148914691236517205 : Int)))) (2 : Int)) (3689348814741910323 : Int)) + (bitI .and .u64 (IntKind.wrap .u64 ((bitI .and .u64 (shrI .u64 x0 (1 : Int)) (6148914691236517205 : Int)) + (bitI .and .u64 x0 (6148914691236517205 : Int)))) (3689348814741910323 : Int)))))) (1085102592571150095 : Int)) (8 : Int)))) + (shrI .u64 (IntKind.wrap .u64 ((bitI .and .u64 (IntKind.wrap .u64 ((shrI .u64 (IntKind.wrap .u64 ((bitI .and .u64 (shrI .u64 (IntKind.wrap .u64 ((bitI .and .u64 (shrI .u64 x0 (1 : Int)) (6148914691236517205 : Int)) + (bitI .and .u64 x0 (6148914691236517205 : Int)))) (2 : Int)) (3689348814741910323 : Int)) + (bitI .and .u64 (IntKind.wrap .u64 ((bitI .and .u64 (shrI .u64 x0 (1 : Int)) (6148914691236517205 : Int)) + (bitI .and .u64 x0 (6148914691236517205 : Int)))) (3689348814741910323 : Int)))) (4 : Int)) + (IntKind.wrap .u64 ((bitI .and .u64 (shrI .u64 (IntKind.wrap .u64 ((bitI .and .u64 (shrI .u64 x0 (1 : Int)) (6148914691236517205 : Int)) + (bitI .and .u64 x0 (6148914691236517205 : Int)))) (2 : Int)) (3689348814741910323 : Int)) + (bitI .and .u64 (IntKind.wrap .u64 ((bitI .and .u64 (shrI .u64 x0 (1 : Int)) (6148914691236517205 : Int)) + (bitI .and .u64 x0 (6148914691236517205 : Int)))) (3689348814741910323 : Int)))))) (1085102592571150095 : Int)) + (shrI .u64 (bitI .and .u64 (IntKind.wrap .u64 ((shrI .u64 (IntKind.wrap .u64 ((bitI .and .u64 (shrI .u64 (IntKind.wrap .u64 ((bitI .and .u64 (shrI .u64 x0 (1 : Int)) (6148914691236517205 : Int)) + (bitI .and .u64 x0 (6148914691236517205 : Int)))) (2 : Int)) (3689348814741910323 : Int)) + (bitI .and .u64 (IntKind.wrap .u64 ((bitI .and .u64 (shrI .u64 x0 (1 : Int)) (6148914691236517205 : Int)) + (bitI .and .u64 x0 (6148914691236517205 : Int)))) (3689348814741910323 : Int)))) (4 : Int)) + (IntKind.wrap .u64 ((bitI .and .u64 (shrI .u64 (IntKind.wrap .u64 ((bitI .and .u64 (shrI .u64 x0 (1 : Int)) (6148914691236517205 : Int)) + (bitI .and .u64 x0 (6148914691236517205 : Int)))) (2 : Int)) (3689348814741910323 : Int)) + (bitI .and .u64 (IntKind.wrap .u64 ((bitI .and .u64 (shrI .u64 x0 (1 : Int)) (6148914691236517205 : Int)) + (bitI .and .u64 x0 (6148914691236517205 : Int)))) (3689348814741910323 : Int)))))) (1085102592571150095 : Int)) (8 : Int)))) (16 : Int)))) + (shrI .u64 (IntKind.wrap .u64 ((IntKind.wrap .u64 ((bitI .and .u64 (IntKind.wrap .u64 ((shrI .u64 (IntKind.wrap .u64 ((bitI .and .u64 (shrI .u64 (IntKind.wrap .u64 ((bitI .and .u64 (shrI .u64 x0 (1 : Int)) (6148914691236517205 : Int)) + (bitI .and .u64 x0 (6148914691236517205 : Int)))) (2 : Int)) (3689348814741910323 : Int)) + (bitI .and .u64 (IntKind.wrap .u64 ((bitI .and .u64 (shrI .u64 x0 (1 : Int)) (6148914691236517205 : Int)) + (bitI .and .u64 x0 (6148914691236517205 : Int)))) (3689348814741910323 : Int)))) (4 : Int)) + (IntKind.wrap .u64 ((bitI .and .u64 (shrI .u64 (IntKind.wrap .u64 ((bitI .and .u64 (shrI .u64 x0 (1 : Int)) (6148914691236517205 : Int)) + (bitI .and .u64 x0 (6148914691236517205 : Int)))) (2 : Int)) (3689348814741910323 : Int)) + (bitI .and .u64 (IntKind.wrap .u64 ((bitI .and .u64 (shrI .u64 x0 (1 : Int)) (6148914691236517205 : Int)) + (bitI .and .u64 x0 (6148914691236517205 : Int)))) (3689348814741910323 : Int)))))) (1085102592571150095 : Int)) + (shrI .u64 (bitI .and .u64 (IntKind.wrap .u64 ((shrI .u64 (IntKind.wrap .u64 ((bitI .and .u64 (shrI .u64 (IntKind.wrap .u64 ((bitI .and .u64 (shrI .u64 x0 (1 : Int)) (6148914691236517205 : Int)) + (bitI .and .u64 x0 (6148914691236517205 : Int)))) (2 : Int)) (3689348814741910323 : Int)) + (bitI .and .u64 (IntKind.wrap .u64 ((bitI .and .u64 (shrI .u64 x0 (1 : Int)) (6148914691236517205 : Int)) + (bitI .and .u64 x0 (6148914691236517205 : Int)))) (3689348814741910323 : Int)))) (4 : Int)) + (IntKind.wrap .u64 ((bitI .and .u64 (shrI .u64 (IntKind.wrap .u64 ((bitI .and .u64 (shrI .u64 x0 (1 : Int)) (6148914691236517205 : Int)) + (bitI .and .u64 x0 (6148914691236517205 : Int)))) (2 : Int)) (3689348814741910323 : Int)) + (bitI .and .u64 (IntKind.wrap .u64 ((bitI .and .u64 (shrI .u64 x0 (1 : Int)) (6148914691236517205 : Int)) + (bitI .and .u64 x0 (6148914691236517205 : Int)))) (3689348814741910323 : Int)))))) (1085102592571150095 : Int)) (8 : Int)))) + (shrI .u64 (IntKind.wrap .u64 ((bitI .and .u64 (IntKind.wrap .u64 ((shrI .u64 (IntKind.wrap .u64 ((bitI .and .u64 (shrI .u64 (IntKind.wrap .u64 ((bitI .and .u64 (shrI .u64 x0 (1 : Int)) (6148914691236517205 : Int)) + (bitI .and .u64 x0 (6148914691236517205 : Int)))) (2 : Int)) (3689348814741910323 : Int)) + (bitI .and .u64 (IntKind.wrap .u64 ((bitI .and .u64 (shrI .u64 x0 (1 : Int)) (6148914691236517205 : Int)) + (bitI .and .u64 x0 (6148914691236517205 : Int)))) (3689348814741910323 : Int)))) (4 : Int)) + (IntKind.wrap .u64 ((bitI .and .u64 (shrI .u64 (IntKind.wrap .u64 ((bitI .and .u64 (shrI .u64 x0 (1 : Int)) (6148914691236517205 : Int)) + (bitI .and .u64 x0 (6148914691236517205 : Int)))) (2 : Int)) (3689348814741910323 : Int)) + (bitI .and .u64 (IntKind.wrap .u64 ((bitI .and .u64 (shrI .u64 x0 (1 : Int)) (6148914691236517205 : Int)) + (bitI .and .u64 x0 (6148914691236517205 : Int)))) (3689348814741910323 : Int)))))) (1085102592571150095 : Int)) + (shrI .u64 (bitI .and .u64 (IntKind.wrap .u64 ((shrI .u64 (IntKind.wrap .u64 ((bitI .and .u64 (shrI .u64 (IntKind.wrap .u64 ((bitI .and .u64 (shrI .u64 x0 (1 : Int)) (6148914691236517205 : Int)) + (bitI .and .u64 x0 (6148914691236517205 : Int)))) (2 : Int)) (3689348814741910323 : Int)) + (bitI .and .u64 (IntKind.wrap .u64 ((bitI .and .u64 (shrI .u64 x0 (1 : Int)) (6148914691236517205 : Int)) + (bitI .and .u64 x0 (6148914691236517205 : Int)))) (3689348814741910323 : Int)))) (4 : Int)) + (IntKind.wrap .u64 ((bitI .and .u64 (shrI .u64 (IntKind.wrap .u64 ((bitI .and .u64 (shrI .u64 x0 (1 : Int)) (6148914691236517205 : Int)) + (bitI .and .u64 x0 (6148914691236517205 : Int)))) (2 : Int)) (3689348814741910323 : Int)) + (bitI .and .u64 (IntKind.wrap .u64 ((bitI .and .u64 (shrI .u64 x0 (1 : Int)) (6148914691236517205 : Int)) + (bitI .and .u64 x0 (6148914691236517205 : Int)))) (3689348814741910323 : Int)))))) (1085102592571150095 : Int)) (8 : Int)))) (16 : Int)))) (32 : Int)))))) (127 : Int)), ()))
theorem e0 (k : Nat) : u0 k = t0 := by kernel_rfl
def p0 (k : Nat) : T0 := t0
theorem o0 (k : Nat) : u0 k = p0 k := (Eq.trans (b := t0) (e0 k) (by kernel_rfl))
end math_bits_OnesCount64
def s_math_bits_OnesCount64 (a : (Int) × (Unit)) : Option ((Int) × (Unit)) := math_bits_OnesCount64.p0 (fuel) a.1
noncomputable def F_math_bits_OnesCount64 : FSpec cx.toNm := { ps := [.val (.int .u64)], nres := 1, rt := (.int .i64), rm := .ro, f := s_math_bits_OnesCount64 }
theorem w_math_bits_OnesCount64 (a : (Int) × (Unit)) : runOf (S := cx) math_bits_OnesCount64.E math_bits_OnesCount64.h (fuel) Try.f26 F_math_bits_OnesCount64.ps F_math_bits_OnesCount64.rt F_math_bits_OnesCount64.rm a = F_math_bits_OnesCount64.f a := Eq.trans (b := math_bits_OnesCount64.u0 (fuel) a.1) (by kernel_rfl) (Eq.trans (b := math_bits_OnesCount64.p0 (fuel) a.1) (congrFun (math_bits_OnesCount64.o0 (fuel)) a.1) (by kernel_rfl))
theorem ok_math_bits_OnesCount64 : FnOk Try.prog F_math_bits_OnesCount64 26 := fn_of (hn := math_bits_OnesCount64.h) (E := math_bits_OnesCount64.E) cxOk (tysT _) fs_nil follows Try.func26 (by kernel_rfl) (fun a r h => ⟨fuel, Eq.trans (w_math_bits_OnesCount64 a) h⟩)
namespace bytesets_Len
noncomputable def E : Env cx := { tys := tys, fs := fsOf [(26, F_math_bits_OnesCount64)] }
abbrev R := Option ((Int) × (Unit))
abbrev C := Exit → ST cx → R
noncomputable def b : Code := bodyC Try.f18
noncomputable def h : Hint := { vs := [0, 1, 2, 3, 5, 6, 7], nil := [], cuts := [(3, ([3, 6, 7], []), ([3], [])), (7, ([3], []), ([3], []))], ret := ([2], [1]), ords := [] }
noncomputable def K0 : C := fin (S := cx) E Try.f18.results.toList (.int .i64) .ro [] []
noncomputable def c0 : Code := subC b [1]
noncomputable def K1 (k : Nat) : C := outD h c0 K0
noncomputable def K2 (k : Nat) : C := seqC E h k c0 K0
noncomputable def c1 : Code := subC b [1, 1]
noncomputable def K3 (k : Nat) : C := outD h c1 (K1 k)
noncomputable def K4 (k : Nat) : C := seqC E h k c1 (K1 k)
noncomputable def c2 : Code := subC b [1, 1, 1]
noncomputable def K5 (k : Nat) : C := outD h c2 (K3 k)
noncomputable def K6 (k : Nat) : C := seqC E h k c2 (K3 k)
noncomputable def c3 : Code := subC b [1, 1, 0, 1]
noncomputable def K7 (k : Nat) : C := outD h c3 (K6 k)
noncomputable def K8 (k : Nat) : C := seqC E h k c3 (K6 k)
noncomputable def K9 (k : Nat) : C := blockK 0 (K7 k)
noncomputable def c4 : Code := subC b [1, 1, 0, 1, 0, 0]
noncomputable def K10 (k n1 : Nat) : C := loopD E h k c4 (K9 k) n1
noncomputable def c5 : Code := subC b [1, 1, 0, 1, 0, 0, 1]
noncomputable def K11 (k n1 : Nat) : C := outD h c5 (K10 k n1)
noncomputable def K12 (k n1 : Nat) : C := seqC E h k c5 (K10 k n1)
noncomputable def c6 : Code := subC b [1, 1, 0, 1, 0, 0, 1, 1]
noncomputable def K13 (k n1 : Nat) : C := outD h c6 (K11 k n1)
noncomputable def K14 (k n1 : Nat) : C := seqC E h k c6 (K11 k n1)
noncomputable def c7 : Code := subC b [1, 1, 0, 1, 0, 0, 1, 1, 1]
noncomputable def K15 (k n1 : Nat) : C := outD h c7 (K13 k n1)
noncomputable def K16 (k n1 : Nat) : C := seqC E h k c7 (K13 k n1)
noncomputable def K17 (k n1 : Nat) : C := blockK 1 (K16 k n1)
noncomputable def c8 : Code := subC b [1, 1, 0, 1, 0, 0, 1, 1, 0, 0, 1]
noncomputable def K18 (k n1 : Nat) : C := outD h c8 (K17 k n1)
noncomputable def K19 (k n1 : Nat) : C := seqC E h k c8 (K17 k n1)
noncomputable def c9 : Code := subC b [1, 1, 1, 1]
noncomputable def K20 (k : Nat) : C := outD h c9 (K5 k)
noncomputable def K21 (k : Nat) : C := seqC E h k c9 (K5 k)
abbrev T2 := Int → R
abbrev T1 := Int → (List (Int)) → Int → R
abbrev T0 := (List (Int)) → R
abbrev s2 : Int → ST cx := fun (x3 : Int) => ({ vars := [(3, .v (.int .i64) .ro x3)], scr := [], mems := [] } : ST cx)
noncomputable def u2 (k : Nat) : T2 := fun (x3 : Int) => uK (run E h k c2) (s2 x3) (K5 k)
noncomputable abbrev l2 (k : Nat) : T2 := fun (x3 : Int) => cutK (run E h k c2) (s2 x3) (K5 k)
abbrev s1 : Int → (List (Int)) → Int → ST cx := fun (x3 : Int) (x6 : List (Int)) (x7 : Int) => ({ vars := [(3, .v (.int .i64) .ro x3), (6, .v (.agg (.arr 4 (.int .u64))) .ro x6), (7, .v (.int .i64) .ro x7)], scr := [], mems := [] } : ST cx)
noncomputable def u1 (k n1 : Nat) : T1 := fun (x3 : Int) (x6 : List (Int)) (x7 : Int) => uK (loopL E h k c4 (K9 k) n1) (s1 x3 x6 x7) ()
noncomputable abbrev l1 (k n1 : Nat) : T1 := fun (x3 : Int) (x6 : List (Int)) (x7 : Int) => cutK (loopL E h k c4 (K9 k) n1) (s1 x3 x6 x7) ()
noncomputable def u0 (k : Nat) : T0 := fun (x0 : List (Int)) => runOf (S := cx) E h k Try.f18 [.val (.agg (.arr 4 (.int .u64)))] (.int .i64) .ro (x0, ())
def t2 : T2 := fun (x3 : Int) => 
  (some (x3, ()))
theorem e2 (k : Nat) : u2 k = t2 := by kernel_rfl
theorem g2 (k : Nat) : l2 k = u2 k := funext fun _ => cut_u _ _ _
def p2 (k : Nat) : T2 := t2
theorem o2 (k : Nat) : l2 k = p2 k := (Eq.trans (b := u2 k) (g2 k) (Eq.trans (b := t2) (e2 k) (by kernel_rfl)))
def t1 (f1 : T1) (f2 : T2) : T1 := fun (x3 : Int) (x6 : List (Int)) (x7 : Int) => 
  (iteB (decide (x7 < (4 : Int))) (withinR x7 4 fun q1 => (bindR (s_math_bits_OnesCount64 ((List.getD x6 q1 (0 : Int)), ())) fun r2 => (f1 (w64 (x3 + r2.1)) x6 (w64 (x7 + (1 : Int)))))) (f2 x3))
theorem e1 (k n1 : Nat) : u1 k (n1 + 1) = t1 (l1 k n1) (l2 k) := by kernel_rfl
theorem g1 (k n1 : Nat) : l1 k (n1 + 1) = u1 k (n1 + 1) := funext fun _ => funext fun _ => funext fun _ => cut_u _ _ _
theorem d1 {x1 y1 : T1} {x2 y2 : T2} (h1 : x1 = y1) (h2 : x2 = y2) : t1 x1 x2 = t1 y1 y2 := by subst h1; subst h2; rfl
def p1 (k : Nat) : Nat → T1
  | 0 => fun _ _ _ => none
  | n1 + 1 => t1 (p1 k n1) (p2 k)
theorem o1 (k : Nat) : ∀ n1, l1 k n1 = p1 k n1 := by
  intro n1
  induction n1 with
  | zero => kernel_rfl
  | succ n1 ih => exact (Eq.trans (b := u1 k (n1 + 1)) (g1 k n1) (Eq.trans (b := t1 (l1 k n1) (l2 k)) (e1 k n1) (Eq.trans (b := t1 (p1 k n1) (p2 k)) (d1 ih (o2 k)) (by kernel_rfl))))
def t0 (f1 : T1) : T0 := fun (x0 : List (Int)) => 
  (f1 (0 : Int) x0 (0 : Int))
theorem e0 (k : Nat) : u0 k = t0 (l1 k k) := by kernel_rfl
theorem d0 {x1 y1 : T1} (h1 : x1 = y1) : t0 x1 = t0 y1 := by subst h1; rfl
def p0 (k : Nat) : T0 := t0 (p1 k k)
theorem o0 (k : Nat) : u0 k = p0 k := (Eq.trans (b := t0 (l1 k k)) (e0 k) (Eq.trans (b := t0 (p1 k k)) (d0 (o1 k k)) (by kernel_rfl)))
end bytesets_Len
def s_bytesets_Len (a : (List (Int)) × (Unit)) : Option ((Int) × (Unit)) := bytesets_Len.p0 (fuel) a.1
noncomputable def F_bytesets_Len : FSpec cx.toNm := { ps := [.val (.agg (.arr 4 (.int .u64)))], nres := 1, rt := (.int .i64), rm := .ro, f := s_bytesets_Len }
theorem w_bytesets_Len (a : (List (Int)) × (Unit)) : runOf (S := cx) bytesets_Len.E bytesets_Len.h (fuel) Try.f18 F_bytesets_Len.ps F_bytesets_Len.rt F_bytesets_Len.rm a = F_bytesets_Len.f a := Eq.trans (b := bytesets_Len.u0 (fuel) a.1) (by kernel_rfl) (Eq.trans (b := bytesets_Len.p0 (fuel) a.1) (congrFun (bytesets_Len.o0 (fuel)) a.1) (by kernel_rfl))
theorem ok_bytesets_Len : FnOk Try.prog F_bytesets_Len 18 := fn_of (hn := bytesets_Len.h) (E := bytesets_Len.E) cxOk (tysT _) (fs_cons ok_math_bits_OnesCount64 fs_nil) follows Try.func18 (by kernel_rfl) (fun a r h => ⟨fuel, Eq.trans (w_bytesets_Len a) h⟩)
namespace law05_alive
noncomputable def E : Env cx := { tys := tys, fs := fsOf [(10, F_bytesets_Not), (12, F_bytesets_Classes), (16, F_bytesets_Of), (17, F_bytesets_Range), (18, F_bytesets_Len)] }
abbrev R := Option ((Bool) × (Unit))
abbrev C := Exit → ST cx → R
noncomputable def b : Code := bodyC Try.f6
noncomputable def h : Hint := { vs := [0, 1, 2, 3], nil := [], cuts := [], ret := ([0], [1, 2]), ords := [] }
noncomputable def K0 : C := fin (S := cx) E Try.f6.results.toList .bool .ro [] []
noncomputable def c0 : Code := subC b [1]
noncomputable def K1 (k : Nat) : C := outD h c0 K0
noncomputable def K2 (k : Nat) : C := seqC E h k c0 K0
noncomputable def c1 : Code := subC b [1, 1]
noncomputable def K3 (k : Nat) : C := outD h c1 (K1 k)
noncomputable def K4 (k : Nat) : C := seqC E h k c1 (K1 k)
noncomputable def c2 : Code := subC b [1, 1, 1]
noncomputable def K5 (k : Nat) : C := outD h c2 (K3 k)
noncomputable def K6 (k : Nat) : C := seqC E h k c2 (K3 k)
noncomputable def c3 : Code := subC b [1, 1, 1, 1]
noncomputable def K7 (k : Nat) : C := outD h c3 (K5 k)
noncomputable def K8 (k : Nat) : C := seqC E h k c3 (K5 k)
abbrev T0 := R
noncomputable def u0 (k : Nat) : T0 := runOf (S := cx) E h k Try.f6 [] .bool .ro (())
def t0 : T0 := 
  (bindR (s_bytesets_Of (([(97 : Int), (99 : Int)] : List (Int)), ())) fun r1 => (bindR (s_bytesets_Range ((97 : Int), ((99 : Int), ()))) fun r2 => (bindR (s_bytesets_Of (([(98 : Int)] : List (Int)), ())) fun r3 => (bindR (s_bytesets_Classes (([r2.1, r3.1] : List (List (Int))), ())) fun r4 => (bindR (s_bytesets_Len (r1.1, ())) fun r5 => (iteB (decide (r5.1 = (2 : Int))) (bindR (s_bytesets_Not (r1.1, ())) fun r6 => (bindR (s_bytesets_Len (r6.1, ())) fun r7 => (iteB (decide (r7.1 = (254 : Int))) (withinR (97 : Int) 256 fun q8 => (iteB (decide ((List.getD r4.1.1 q8 (0 : Int)) = (1 : Int))) (withinR (98 : Int) 256 fun q9 => (iteB (decide ((List.getD r4.1.1 q9 (0 : Int)) = (2 : Int))) (withinR (99 : Int) 256 fun q10 => (iteB (decide ((List.getD r4.1.1 q10 (0 : Int)) = (1 : Int))) (withinR (100 : Int) 256 fun q11 => (iteB (decide ((List.getD r4.1.1 q11 (0 : Int)) = (0 : Int))) (some ((decide (r4.1.2 = (3 : Int))), ())) (some (false, ())))) (some (false, ())))) (some (false, ())))) (some (false, ())))) (some (false, ()))))) (some (false, ()))))))))
theorem e0 (k : Nat) : u0 k = t0 := by kernel_rfl
def p0 (k : Nat) : T0 := t0
theorem o0 (k : Nat) : u0 k = p0 k := (Eq.trans (b := t0) (e0 k) (by kernel_rfl))
end law05_alive
def s_law05_alive (a : Unit) : Option ((Bool) × (Unit)) := law05_alive.p0 (fuel)
noncomputable def F_law05_alive : FSpec cx.toNm := { ps := [], nres := 1, rt := .bool, rm := .ro, f := s_law05_alive }
theorem w_law05_alive (a : Unit) : runOf (S := cx) law05_alive.E law05_alive.h (fuel) Try.f6 F_law05_alive.ps F_law05_alive.rt F_law05_alive.rm a = F_law05_alive.f a := Eq.trans (b := law05_alive.u0 (fuel)) (by kernel_rfl) (Eq.trans (b := law05_alive.p0 (fuel)) (law05_alive.o0 (fuel)) (by kernel_rfl))
theorem ok_law05_alive : FnOk Try.prog F_law05_alive 6 := fn_of (hn := law05_alive.h) (E := law05_alive.E) cxOk (tysT _) (fs_cons ok_bytesets_Not (fs_cons ok_bytesets_Classes (fs_cons ok_bytesets_Of (fs_cons ok_bytesets_Range (fs_cons ok_bytesets_Len fs_nil))))) follows Try.func6 (by kernel_rfl) (fun a r h => ⟨fuel, Eq.trans (w_law05_alive a) h⟩)
namespace ref05_Has
noncomputable def E : Env cx := { tys := tys, fs := fsOf [] }
abbrev R := Option ((Bool) × (Unit))
abbrev C := Exit → ST cx → R
noncomputable def b : Code := bodyC Try.f7
noncomputable def h : Hint := { vs := [0, 1, 2, 4, 5, 6], nil := [], cuts := [(3, ([1, 5, 6], []), ([5], [])), (6, ([5], []), ([5], []))], ret := ([4], [2]), ords := [] }
noncomputable def K0 : C := fin (S := cx) E Try.f7.results.toList .bool .ro [] []
noncomputable def c0 : Code := subC b [1]
noncomputable def K1 (k : Nat) : C := outD h c0 K0
noncomputable def K2 (k : Nat) : C := seqC E h k c0 K0
noncomputable def c1 : Code := subC b [1, 1]
noncomputable def K3 (k : Nat) : C := outD h c1 (K1 k)
noncomputable def K4 (k : Nat) : C := seqC E h k c1 (K1 k)
noncomputable def c2 : Code := subC b [1, 1, 1]
noncomputable def K5 (k : Nat) : C := outD h c2 (K3 k)
noncomputable def K6 (k : Nat) : C := seqC E h k c2 (K3 k)
noncomputable def c3 : Code := subC b [1, 1, 0, 1]
noncomputable def K7 (k : Nat) : C := outD h c3 (K6 k)
noncomputable def K8 (k : Nat) : C := seqC E h k c3 (K6 k)
noncomputable def K9 (k : Nat) : C := blockK 0 (K7 k)
noncomputable def c4 : Code := subC b [1, 1, 0, 1, 0, 0]
noncomputable def K10 (k n1 : Nat) : C := loopD E h k c4 (K9 k) n1
noncomputable def c5 : Code := subC b [1, 1, 0, 1, 0, 0, 1]
noncomputable def K11 (k n1 : Nat) : C := outD h c5 (K10 k n1)
noncomputable def K12 (k n1 : Nat) : C := seqC E h k c5 (K10 k n1)
noncomputable def c6 : Code := subC b [1, 1, 0, 1, 0, 0, 0, 1]
noncomputable def K13 (k n1 : Nat) : C := outD h c6 (K12 k n1)
noncomputable def K14 (k n1 : Nat) : C := seqC E h k c6 (K12 k n1)
noncomputable def c7 : Code := subC b [1, 1, 0, 1, 0, 0, 1, 1]
noncomputable def K15 (k n1 : Nat) : C := outD h c7 (K11 k n1)
noncomputable def K16 (k n1 : Nat) : C := seqC E h k c7 (K11 k n1)
noncomputable def K17 (k n1 : Nat) : C := blockK 1 (K16 k n1)
noncomputable def c8 : Code := subC b [1, 1, 1, 1]
noncomputable def K18 (k : Nat) : C := outD h c8 (K5 k)
noncomputable def K19 (k : Nat) : C := seqC E h k c8 (K5 k)
abbrev T2 := Int → R
abbrev T1 := Int → Int → Int → R
abbrev T0 := (List (Int)) → Int → R
abbrev s2 : Int → ST cx := fun (x5 : Int) => ({ vars := [(5, .v (.int .u64) .ro x5)], scr := [], mems := [] } : ST cx)
noncomputable def u2 (k : Nat) : T2 := fun (x5 : Int) => uK (run E h k c2) (s2 x5) (K5 k)
noncomputable abbrev l2 (k : Nat) : T2 := fun (x5 : Int) => cutK (run E h k c2) (s2 x5) (K5 k)
abbrev s1 : Int → Int → Int → ST cx := fun (x1 x5 x6 : Int) => ({ vars := [(1, .v (.int .u8) .ro x1), (5, .v (.int .u64) .ro x5), (6, .v (.int .i64) .ro x6)], scr := [], mems := [] } : ST cx)
noncomputable def u1 (k n1 : Nat) : T1 := fun (x1 x5 x6 : Int) => uK (loopL E h k c4 (K9 k) n1) (s1 x1 x5 x6) ()
noncomputable abbrev l1 (k n1 : Nat) : T1 := fun (x1 x5 x6 : Int) => cutK (loopL E h k c4 (K9 k) n1) (s1 x1 x5 x6) ()
noncomputable def u0 (k : Nat) : T0 := fun (x0 : List (Int)) (x1 : Int) => runOf (S := cx) E h k Try.f7 [.val (.agg (.arr 4 (.int .u64))), .val (.int .u8)] .bool .ro (x0, x1, ())
def t2 : T2 := fun (x5 : Int) => 
  (some ((decide ((Int.tmod x5 (2 : Int)) = (1 : Int))), ()))
theorem e2 (k : Nat) : u2 k = t2 := by kernel_rfl
theorem g2 (k : Nat) : l2 k = u2 k := funext fun _ => cut_u _ _ _
def p2 (k : Nat) : T2 := t2
theorem o2 (k : Nat) : l2 k = p2 k := (Eq.trans (b := u2 k) (g2 k) (Eq.trans (b := t2) (e2 k) (by kernel_rfl)))
def t1 (f1 : T1) (f2 : T2) : T1 := fun (x1 x5 x6 : Int) => 
  (iteB (decide (x6 < (Int.tmod (w64 (x1)) (64 : Int)))) (f1 x1 (IntKind.wrap .u64 (Int.tdiv x5 (2 : Int))) (w64 (x6 + (1 : Int)))) (f2 x5))
theorem e1 (k n1 : Nat) : u1 k (n1 + 1) = t1 (l1 k n1) (l2 k) := by kernel_rfl
theorem g1 (k n1 : Nat) : l1 k (n1 + 1) = u1 k (n1 + 1) := funext fun _ => funext fun _ => funext fun _ => cut_u _ _ _
theorem d1 {x1 y1 : T1} {x2 y2 : T2} (h1 : x1 = y1) (h2 : x2 = y2) : t1 x1 x2 = t1 y1 y2 := by subst h1; subst h2; rfl
def p1 (k : Nat) : Nat → T1
  | 0 => fun _ _ _ => none
  | n1 + 1 => t1 (p1 k n1) (p2 k)
theorem o1 (k : Nat) : ∀ n1, l1 k n1 = p1 k n1 := by
  intro n1
  induction n1 with
  | zero => kernel_rfl
  | succ n1 ih => exact (Eq.trans (b := u1 k (n1 + 1)) (g1 k n1) (Eq.trans (b := t1 (l1 k n1) (l2 k)) (e1 k n1) (Eq.trans (b := t1 (p1 k n1) (p2 k)) (d1 ih (o2 k)) (by kernel_rfl))))
def t0 (f1 : T1) : T0 := fun (x0 : List (Int)) (x1 : Int) => 
  (withinR (w64 (Int.tdiv (w64 (x1)) (64 : Int))) 4 fun q1 => (f1 x1 (List.getD x0 q1 (0 : Int)) (0 : Int)))
theorem e0 (k : Nat) : u0 k = t0 (l1 k k) := by kernel_rfl
theorem d0 {x1 y1 : T1} (h1 : x1 = y1) : t0 x1 = t0 y1 := by subst h1; rfl
def p0 (k : Nat) : T0 := t0 (p1 k k)
theorem o0 (k : Nat) : u0 k = p0 k := (Eq.trans (b := t0 (l1 k k)) (e0 k) (Eq.trans (b := t0 (p1 k k)) (d0 (o1 k k)) (by kernel_rfl)))
end ref05_Has
def s_ref05_Has (a : (List (Int)) × ((Int) × (Unit))) : Option ((Bool) × (Unit)) := ref05_Has.p0 (fuel) a.1 a.2.1
noncomputable def F_ref05_Has : FSpec cx.toNm := { ps := [.val (.agg (.arr 4 (.int .u64))), .val (.int .u8)], nres := 1, rt := .bool, rm := .ro, f := s_ref05_Has }
theorem w_ref05_Has (a : (List (Int)) × ((Int) × (Unit))) : runOf (S := cx) ref05_Has.E ref05_Has.h (fuel) Try.f7 F_ref05_Has.ps F_ref05_Has.rt F_ref05_Has.rm a = F_ref05_Has.f a := Eq.trans (b := ref05_Has.u0 (fuel) a.1 a.2.1) (by kernel_rfl) (Eq.trans (b := ref05_Has.p0 (fuel) a.1 a.2.1) (congrFun (congrFun (ref05_Has.o0 (fuel)) a.1) a.2.1) (by kernel_rfl))
theorem ok_ref05_Has : FnOk Try.prog F_ref05_Has 7 := fn_of (hn := ref05_Has.h) (E := ref05_Has.E) cxOk (tysT _) fs_nil follows Try.func7 (by kernel_rfl) (fun a r h => ⟨fuel, Eq.trans (w_ref05_Has a) h⟩)
namespace law05_BytesetsJoin
noncomputable def E : Env cx := { tys := tys, fs := fsOf [(6, F_law05_alive), (7, F_ref05_Has), (8, F_bytesets_Or), (9, F_bytesets_And), (10, F_bytesets_Not), (11, F_bytesets_Less)] }
abbrev R := Option ((Bool) × (Unit))
abbrev C := Exit → ST cx → R
noncomputable def b : Code := bodyC Try.f3
noncomputable def h : Hint := { vs := [0, 1, 2, 3, 5, 6, 8, 9, 10, 11, 12], nil := [], cuts := [(7, ([0, 3, 5, 6, 9, 10], [5, 6]), ([0, 3, 5, 6, 9], [5, 6])), (8, ([0, 3, 5, 6, 9, 10], [5, 6]), ([0, 3, 5, 6, 9, 10], [5, 6])), (10, ([0, 3, 5, 6, 9], [5, 6]), ([0, 3, 5, 6, 9], [5, 6]))], ret := ([8], [5, 6]), ords := [(10, [0, 1, 3, 4, 2, 5, 6, 7])] }
noncomputable def K0 : C := fin (S := cx) E Try.f3.results.toList .bool .ro [] []
noncomputable def c0 : Code := subC b [1]
noncomputable def K1 (k : Nat) : C := outD h c0 K0
noncomputable def K2 (k : Nat) : C := seqC E h k c0 K0
noncomputable def c1 : Code := subC b [1, 1]
noncomputable def K3 (k : Nat) : C := outD h c1 (K1 k)
noncomputable def K4 (k : Nat) : C := seqC E h k c1 (K1 k)
noncomputable def c2 : Code := subC b [1, 0, 1]
noncomputable def K5 (k : Nat) : C := outD h c2 (K4 k)
noncomputable def K6 (k : Nat) : C := seqC E h k c2 (K4 k)
noncomputable def c3 : Code := subC b [1, 0, 1, 0, 1]
noncomputable def K7 (k : Nat) : C := outD h c3 (K5 k)
noncomputable def K8 (k : Nat) : C := seqC E h k c3 (K5 k)
noncomputable def c4 : Code := subC b [1, 1, 1]
noncomputable def K9 (k : Nat) : C := outD h c4 (K3 k)
noncomputable def K10 (k : Nat) : C := seqC E h k c4 (K3 k)
noncomputable def c5 : Code := subC b [1, 1, 0, 1]
noncomputable def K11 (k : Nat) : C := outD h c5 (K10 k)
noncomputable def K12 (k : Nat) : C := seqC E h k c5 (K10 k)
noncomputable def c6 : Code := subC b [1, 1, 0, 1, 0, 1]
noncomputable def K13 (k : Nat) : C := outD h c6 (K11 k)
noncomputable def K14 (k : Nat) : C := seqC E h k c6 (K11 k)
noncomputable def c7 : Code := subC b [1, 1, 1, 1]
noncomputable def K15 (k : Nat) : C := outD h c7 (K9 k)
noncomputable def K16 (k : Nat) : C := seqC E h k c7 (K9 k)
noncomputable def c8 : Code := subC b [1, 1, 1, 1, 1]
noncomputable def K17 (k : Nat) : C := outD h c8 (K15 k)
noncomputable def K18 (k : Nat) : C := seqC E h k c8 (K15 k)
noncomputable def c9 : Code := subC b [1, 1, 1, 1, 0, 1]
noncomputable def K19 (k : Nat) : C := outD h c9 (K18 k)
noncomputable def K20 (k : Nat) : C := seqC E h k c9 (K18 k)
noncomputable def K21 (k : Nat) : C := blockK 0 (K19 k)
noncomputable def c10 : Code := subC b [1, 1, 1, 1, 0, 1, 0, 0]
noncomputable def K22 (k n1 : Nat) : C := loopD E h k c10 (K21 k) n1
noncomputable def c11 : Code := subC b [1, 1, 1, 1, 0, 1, 0, 0, 1]
noncomputable def K23 (k n1 : Nat) : C := outD h c11 (K22 k n1)
noncomputable def K24 (k n1 : Nat) : C := seqC E h k c11 (K22 k n1)
noncomputable def c12 : Code := subC b [1, 1, 1, 1, 0, 1, 0, 0, 0, 1]
noncomputable def K25 (k n1 : Nat) : C := outD h c12 (K24 k n1)
noncomputable def K26 (k n1 : Nat) : C := seqC E h k c12 (K24 k n1)
noncomputable def c13 : Code := subC b [1, 1, 1, 1, 0, 1, 0, 0, 1, 1]
noncomputable def K27 (k n1 : Nat) : C := outD h c13 (K23 k n1)
noncomputable def K28 (k n1 : Nat) : C := seqC E h k c13 (K23 k n1)
noncomputable def K29 (k n1 : Nat) : C := blockK 1 (K28 k n1)
noncomputable def c14 : Code := subC b [1, 1, 1, 1, 1, 1]
noncomputable def K30 (k : Nat) : C := outD h c14 (K17 k)
noncomputable def K31 (k : Nat) : C := seqC E h k c14 (K17 k)
noncomputable def c15 : Code := subC b [1, 1, 1, 1, 1, 1, 1]
noncomputable def K32 (k : Nat) : C := outD h c15 (K30 k)
noncomputable def K33 (k : Nat) : C := seqC E h k c15 (K30 k)
abbrev T2 := (List (List (Int))) → Int → Bool → Int → (List (Int)) → (List (Int)) → R
abbrev T3 := (List (List (Int))) → Int → Bool → (List (Int)) → (List (Int)) → R
abbrev T1 := (List (List (Int))) → Int → Bool → Int → (List (Int)) → (List (Int)) → R
abbrev T0 := (List (List (Int))) → (List (Int)) → (List (Int)) → Int → R
abbrev s2 : (List (List (Int))) → Int → Bool → Int → (List (Int)) → (List (Int)) → ST cx := fun (x0 : List (List (Int))) (x3 : Int) (x9 : Bool) (x10 : Int) (m5 m6 : List (Int)) => ({ vars := [(0, .v (.slice 25 (.agg (.arr 4 (.int .u64)))) .ro x0), (3, .v (.int .u8) .ro x3), (5, .addr (.mem 5) []), (6, .addr (.mem 6) []), (9, .v .bool .ro x9), (10, .v (.int .i64) .ro x10)], scr := [], mems := [(5, ⟨(.agg (.arr 4 (.int .u64))), .ro, m5⟩), (6, ⟨(.agg (.arr 4 (.int .u64))), .ro, m6⟩)] } : ST cx)
noncomputable def u2 (k n1 : Nat) : T2 := fun (x0 : List (List (Int))) (x3 : Int) (x9 : Bool) (x10 : Int) (m5 m6 : List (Int)) => uK (run E h k c13) (s2 x0 x3 x9 x10 m5 m6) (K27 k n1)
noncomputable abbrev l2 (k n1 : Nat) : T2 := fun (x0 : List (List (Int))) (x3 : Int) (x9 : Bool) (x10 : Int) (m5 m6 : List (Int)) => cutK (run E h k c13) (s2 x0 x3 x9 x10 m5 m6) (K27 k n1)
abbrev s3 : (List (List (Int))) → Int → Bool → (List (Int)) → (List (Int)) → ST cx := fun (x0 : List (List (Int))) (x3 : Int) (x9 : Bool) (m5 m6 : List (Int)) => ({ vars := [(0, .v (.slice 25 (.agg (.arr 4 (.int .u64)))) .ro x0), (3, .v (.int .u8) .ro x3), (5, .addr (.mem 5) []), (6, .addr (.mem 6) []), (9, .v .bool .ro x9)], scr := [], mems := [(5, ⟨(.agg (.arr 4 (.int .u64))), .ro, m5⟩), (6, ⟨(.agg (.arr 4 (.int .u64))), .ro, m6⟩)] } : ST cx)
noncomputable def u3 (k : Nat) : T3 := fun (x0 : List (List (Int))) (x3 : Int) (x9 : Bool) (m5 m6 : List (Int)) => uK (run E h k c8) (s3 x0 x3 x9 m5 m6) (K17 k)
noncomputable abbrev l3 (k : Nat) : T3 := fun (x0 : List (List (Int))) (x3 : Int) (x9 : Bool) (m5 m6 : List (Int)) => cutK (run E h k c8) (s3 x0 x3 x9 m5 m6) (K17 k)
abbrev s1 : (List (List (Int))) → Int → Bool → Int → (List (Int)) → (List (Int)) → ST cx := fun (x0 : List (List (Int))) (x3 : Int) (x9 : Bool) (x10 : Int) (m5 m6 : List (Int)) => ({ vars := [(0, .v (.slice 25 (.agg (.arr 4 (.int .u64)))) .ro x0), (3, .v (.int .u8) .ro x3), (5, .addr (.mem 5) []), (6, .addr (.mem 6) []), (9, .v .bool .ro x9), (10, .v (.int .i64) .ro x10)], scr := [], mems := [(5, ⟨(.agg (.arr 4 (.int .u64))), .ro, m5⟩), (6, ⟨(.agg (.arr 4 (.int .u64))), .ro, m6⟩)] } : ST cx)
noncomputable def u1 (k n1 : Nat) : T1 := fun (x0 : List (List (Int))) (x3 : Int) (x9 : Bool) (x10 : Int) (m5 m6 : List (Int)) => uK (loopL E h k c10 (K21 k) n1) (s1 x0 x3 x9 x10 m5 m6) ()
noncomputable abbrev l1 (k n1 : Nat) : T1 := fun (x0 : List (List (Int))) (x3 : Int) (x9 : Bool) (x10 : Int) (m5 m6 : List (Int)) => cutK (loopL E h k c10 (K21 k) n1) (s1 x0 x3 x9 x10 m5 m6) ()
noncomputable def u0 (k : Nat) : T0 := fun (x0 : List (List (Int))) (x1 x2 : List (Int)) (x3 : Int) => runOf (S := cx) E h k Try.f3 [.val (.slice 25 (.agg (.arr 4 (.int .u64)))), .val (.agg (.arr 4 (.int .u64))), .val (.agg (.arr 4 (.int .u64))), .val (.int .u8)] .bool .ro (x0, x1, x2, x3, ())
def t2 (f1 : T1) : T2 := fun (x0 : List (List (Int))) (x3 : Int) (x9 : Bool) (x10 : Int) (m5 m6 : List (Int)) => 
  (f1 x0 x3 x9 (w64 (x10 + (1 : Int))) m5 m6)
theorem e2 (k n1 : Nat) : u2 k n1 = t2 (l1 k n1) := by kernel_rfl
theorem g2 (k n1 : Nat) : l2 k n1 = u2 k n1 := funext fun _ => funext fun _ => funext fun _ => funext fun _ => funext fun _ => funext fun _ => cut_u _ _ _
theorem d2 {x1 y1 : T1} (h1 : x1 = y1) : t2 x1 = t2 y1 := by subst h1; rfl
def p2 (k : Nat) (a1 : T1) : T2 := t2 a1
theorem o2 (k n1 : Nat) (a1 : T1) (h1 : l1 k n1 = a1) : l2 k n1 = p2 k a1 := (Eq.trans (b := u2 k n1) (g2 k n1) (Eq.trans (b := t2 (l1 k n1)) (e2 k n1) (Eq.trans (b := t2 a1) (d2 h1) (by kernel_rfl))))
def t3 : T3 := fun (x0 : List (List (Int))) (x3 : Int) (x9 : Bool) (m5 m6 : List (Int)) => 
  (bindR (s_ref05_Has (m5, (x3, ()))) fun r4 => (bindR (s_ref05_Has (m6, (x3, ()))) fun r5 => (bindR (s_bytesets_Or (x0, ())) fun r6 => (bindR (s_ref05_Has (r6.1, (x3, ()))) fun r7 => (iteB (r7.1 == x9) (bindR (s_bytesets_And (m5, (m6, ()))) fun r8 => (bindR (s_ref05_Has (r8.1, (x3, ()))) fun r9 => (iteB r4.1 (iteB (r9.1 == r5.1) (bindR (s_bytesets_Not (m5, ())) fun r10 => (bindR (s_ref05_Has (r10.1, (x3, ()))) fun r11 => (iteB (r11.1 == (notB r4.1)) (bindR (s_bytesets_Less (m5, (m6, ()))) fun r12 => (bindR (s_ref05_Has (r12.1, (x3, ()))) fun r13 => (iteB r4.1 (some ((r13.1 == (notB r5.1)), ())) (some ((r13.1 == false), ()))))) (some (false, ()))))) (some (false, ()))) (iteB (r9.1 == false) (bindR (s_bytesets_Not (m5, ())) fun r14 => (bindR (s_ref05_Has (r14.1, (x3, ()))) fun r15 => (iteB (r15.1 == (notB r4.1)) (bindR (s_bytesets_Less (m5, (m6, ()))) fun r16 => (bindR (s_ref05_Has (r16.1, (x3, ()))) fun r17 => (iteB r4.1 (some ((r17.1 == (notB r5.1)), ())) (some ((r17.1 == false), ()))))) (some (false, ()))))) (some (false, ())))))) (some (false, ())))))))
theorem e3 (k : Nat) : u3 k = t3 := by kernel_rfl
theorem g3 (k : Nat) : l3 k = u3 k := funext fun _ => funext fun _ => funext fun _ => funext fun _ => funext fun _ => cut_u _ _ _
def p3 (k : Nat) : T3 := t3
theorem o3 (k : Nat) : l3 k = p3 k := (Eq.trans (b := u3 k) (g3 k) (Eq.trans (b := t3) (e3 k) (by kernel_rfl)))
def t1 (f2 : T2) (f3 : T3) : T1 := fun (x0 : List (List (Int))) (x3 : Int) (x9 : Bool) (x10 : Int) (m5 m6 : List (Int)) => 
  (iteB (decide (x10 < ((List.length x0 : Nat) : Int))) (iteB x9 (f2 x0 x3 true x10 m5 m6) (withinR x10 (List.length x0) fun q2 => (bindR (s_ref05_Has ((List.getD x0 q2 (List.replicate 4 (0 : Int))), (x3, ()))) fun r3 => (f2 x0 x3 r3.1 x10 m5 m6)))) (f3 x0 x3 x9 m5 m6))
theorem e1 (k n1 : Nat) : u1 k (n1 + 1) = t1 (l2 k n1) (l3 k) := by kernel_rfl
theorem g1 (k n1 : Nat) : l1 k (n1 + 1) = u1 k (n1 + 1) := funext fun _ => funext fun _ => funext fun _ => funext fun _ => funext fun _ => funext fun _ => cut_u _ _ _
theorem d1 {x2 y2 : T2} {x3 y3 : T3} (h2 : x2 = y2) (h3 : x3 = y3) : t1 x2 x3 = t1 y2 y3 := by subst h2; subst h3; rfl
def p1 (k : Nat) : Nat → T1
  | 0 => fun _ _ _ _ _ _ => none
  | n1 + 1 => t1 (p2 k (p1 k n1)) (p3 k)
theorem o1 (k : Nat) : ∀ n1, l1 k n1 = p1 k n1 := by
  intro n1
  induction n1 with
  | zero => kernel_rfl
  | succ n1 ih => exact (Eq.trans (b := u1 k (n1 + 1)) (g1 k n1) (Eq.trans (b := t1 (l2 k n1) (l3 k)) (e1 k n1) (Eq.trans (b := t1 (p2 k (p1 k n1)) (p3 k)) (d1 (o2 k n1 (p1 k n1) ih) (o3 k)) (by kernel_rfl))))
def t0 (f1 : T1) : T0 := fun (x0 : List (List (Int))) (x1 x2 : List (Int)) (x3 : Int) => 
  (bindR (s_law05_alive ()) fun r1 => (iteB (notB r1.1) (some (false, ())) (iteB (decide ((30 : Int) < ((List.length x0 : Nat) : Int))) (some (true, ())) (f1 x0 x3 false (0 : Int) x1 x2))))
theorem e0 (k : Nat) : u0 k = t0 (l1 k k) := by kernel_rfl
theorem d0 {x1 y1 : T1} (h1 : x1 = y1) : t0 x1 = t0 y1 := by subst h1; rfl
def p0 (k : Nat) : T0 := t0 (p1 k k)
theorem o0 (k : Nat) : u0 k = p0 k := (Eq.trans (b := t0 (l1 k k)) (e0 k) (Eq.trans (b := t0 (p1 k k)) (d0 (o1 k k)) (by kernel_rfl)))
end law05_BytesetsJoin
def s_law05_BytesetsJoin (a : (List (List (Int))) × ((List (Int)) × ((List (Int)) × ((Int) × (Unit))))) : Option ((Bool) × (Unit)) := law05_BytesetsJoin.p0 (fuel) a.1 a.2.1 a.2.2.1 a.2.2.2.1
noncomputable def F_law05_BytesetsJoin : FSpec cx.toNm := { ps := [.val (.slice 25 (.agg (.arr 4 (.int .u64)))), .val (.agg (.arr 4 (.int .u64))), .val (.agg (.arr 4 (.int .u64))), .val (.int .u8)], nres := 1, rt := .bool, rm := .ro, f := s_law05_BytesetsJoin }
theorem w_law05_BytesetsJoin (a : (List (List (Int))) × ((List (Int)) × ((List (Int)) × ((Int) × (Unit))))) : runOf (S := cx) law05_BytesetsJoin.E law05_BytesetsJoin.h (fuel) Try.f3 F_law05_BytesetsJoin.ps F_law05_BytesetsJoin.rt F_law05_BytesetsJoin.rm a = F_law05_BytesetsJoin.f a := Eq.trans (b := law05_BytesetsJoin.u0 (fuel) a.1 a.2.1 a.2.2.1 a.2.2.2.1) (by kernel_rfl) (Eq.trans (b := law05_BytesetsJoin.p0 (fuel) a.1 a.2.1 a.2.2.1 a.2.2.2.1) (congrFun (congrFun (congrFun (congrFun (law05_BytesetsJoin.o0 (fuel)) a.1) a.2.1) a.2.2.1) a.2.2.2.1) (by kernel_rfl))
theorem ok_law05_BytesetsJoin : FnOk Try.prog F_law05_BytesetsJoin 3 := fn_of (hn := law05_BytesetsJoin.h) (E := law05_BytesetsJoin.E) cxOk (tysT _) (fs_cons ok_law05_alive (fs_cons ok_ref05_Has (fs_cons ok_bytesets_Or (fs_cons ok_bytesets_And (fs_cons ok_bytesets_Not (fs_cons ok_bytesets_Less fs_nil)))))) follows Try.func3 (by kernel_rfl) (fun a r h => ⟨fuel, Eq.trans (w_law05_BytesetsJoin a) h⟩)
namespace ref05_Alike
noncomputable def E : Env cx := { tys := tys, fs := fsOf [(7, F_ref05_Has)] }
abbrev R := Option ((Bool) × (Unit))
abbrev C := Exit → ST cx → R
noncomputable def b : Code := bodyC Try.f15
noncomputable def h : Hint := { vs := [0, 1, 2, 6, 7], nil := [], cuts := [(2, ([0, 1, 2, 7], []), ([], [])), (6, ([], []), ([], []))], ret := ([6], []), ords := [(4, [0, 1, 2, 3, 4, 6, 7, 8, 9, 10, 5, 11, 12])] }
noncomputable def K0 : C := fin (S := cx) E Try.f15.results.toList .bool .ro [] []
noncomputable def c0 : Code := subC b [1]
noncomputable def K1 (k : Nat) : C := outD h c0 K0
noncomputable def K2 (k : Nat) : C := seqC E h k c0 K0
noncomputable def c1 : Code := subC b [1, 1]
noncomputable def K3 (k : Nat) : C := outD h c1 (K1 k)
noncomputable def K4 (k : Nat) : C := seqC E h k c1 (K1 k)
noncomputable def c2 : Code := subC b [1, 0, 1]
noncomputable def K5 (k : Nat) : C := outD h c2 (K4 k)
noncomputable def K6 (k : Nat) : C := seqC E h k c2 (K4 k)
noncomputable def K7 (k : Nat) : C := blockK 0 (K5 k)
noncomputable def c3 : Code := subC b [1, 0, 1, 0, 0]
noncomputable def K8 (k n1 : Nat) : C := loopD E h k c3 (K7 k) n1
noncomputable def c4 : Code := subC b [1, 0, 1, 0, 0, 1]
noncomputable def K9 (k n1 : Nat) : C := outD h c4 (K8 k n1)
noncomputable def K10 (k n1 : Nat) : C := seqC E h k c4 (K8 k n1)
noncomputable def c5 : Code := subC b [1, 0, 1, 0, 0, 0, 1]
noncomputable def K11 (k n1 : Nat) : C := outD h c5 (K10 k n1)
noncomputable def K12 (k n1 : Nat) : C := seqC E h k c5 (K10 k n1)
noncomputable def c6 : Code := subC b [1, 0, 1, 0, 0, 1, 1]
noncomputable def K13 (k n1 : Nat) : C := outD h c6 (K9 k n1)
noncomputable def K14 (k n1 : Nat) : C := seqC E h k c6 (K9 k n1)
noncomputable def K15 (k n1 : Nat) : C := blockK 1 (K14 k n1)
noncomputable def c7 : Code := subC b [1, 0, 1, 0, 0, 1, 0, 0, 1]
noncomputable def K16 (k n1 : Nat) : C := outD h c7 (K15 k n1)
noncomputable def K17 (k n1 : Nat) : C := seqC E h k c7 (K15 k n1)
noncomputable def c8 : Code := subC b [1, 0, 1, 0, 0, 1, 0, 0, 1, 0, 1]
noncomputable def K18 (k n1 : Nat) : C := outD h c8 (K16 k n1)
noncomputable def K19 (k n1 : Nat) : C := seqC E h k c8 (K16 k n1)
noncomputable def c9 : Code := subC b [1, 1, 1]
noncomputable def K20 (k : Nat) : C := outD h c9 (K3 k)
noncomputable def K21 (k : Nat) : C := seqC E h k c9 (K3 k)
abbrev T2 := R
abbrev T1 := (List (List (Int))) → Int → Int → Int → R
abbrev T0 := (List (List (Int))) → Int → Int → R
abbrev s2 : ST cx := ({ vars := [], scr := [], mems := [] } : ST cx)
noncomputable def u2 (k : Nat) : T2 := uK (run E h k c1) s2 (K3 k)
noncomputable abbrev l2 (k : Nat) : T2 := cutK (run E h k c1) s2 (K3 k)
abbrev s1 : (List (List (Int))) → Int → Int → Int → ST cx := fun (x0 : List (List (Int))) (x1 x2 x7 : Int) => ({ vars := [(0, .v (.slice 25 (.agg (.arr 4 (.int .u64)))) .ro x0), (1, .v (.int .u8) .ro x1), (2, .v (.int .u8) .ro x2), (7, .v (.int .i64) .ro x7)], scr := [], mems := [] } : ST cx)
noncomputable def u1 (k n1 : Nat) : T1 := fun (x0 : List (List (Int))) (x1 x2 x7 : Int) => uK (loopL E h k c3 (K7 k) n1) (s1 x0 x1 x2 x7) ()
noncomputable abbrev l1 (k n1 : Nat) : T1 := fun (x0 : List (List (Int))) (x1 x2 x7 : Int) => cutK (loopL E h k c3 (K7 k) n1) (s1 x0 x1 x2 x7) ()
noncomputable def u0 (k : Nat) : T0 := fun (x0 : List (List (Int))) (x1 x2 : Int) => runOf (S := cx) E h k Try.f15 [.val (.slice 25 (.agg (.arr 4 (.int .u64)))), .val (.int .u8), .val (.int .u8)] .bool .ro (x0, x1, x2, ())
def t2 : T2 := 
  (some (true, ()))
theorem e2 (k : Nat) : u2 k = t2 := by kernel_rfl
theorem g2 (k : Nat) : l2 k = u2 k := cut_u _ _ _
def p2 (k : Nat) : T2 := t2
theorem o2 (k : Nat) : l2 k = p2 k := (Eq.trans (b := u2 k) (g2 k) (Eq.trans (b := t2) (e2 k) (by kernel_rfl)))
def t1 (f1 : T1) (f2 : T2) : T1 := fun (x0 : List (List (Int))) (x1 x2 x7 : Int) => 
  (iteB (decide (x7 < ((List.length x0 : Nat) : Int))) (withinR x7 (List.length x0) fun q1 => (withinR x7 (List.length x0) fun q2 => (bindR (s_ref05_Has ((List.getD x0 q1 (List.replicate 4 (0 : Int))), (x1, ()))) fun r3 => (bindR (s_ref05_Has ((List.getD x0 q2 (List.replicate 4 (0 : Int))), (x2, ()))) fun r4 => (iteB (!(r3.1 == r4.1)) (some (false, ())) (f1 x0 x1 x2 (w64 (x7 + (1 : Int))))))))) f2)
theorem e1 (k n1 : Nat) : u1 k (n1 + 1) = t1 (l1 k n1) (l2 k) := by kernel_rfl
theorem g1 (k n1 : Nat) : l1 k (n1 + 1) = u1 k (n1 + 1) := funext fun _ => funext fun _ => funext fun _ => funext fun _ => cut_u _ _ _
theorem d1 {x1 y1 : T1} {x2 y2 : T2} (h1 : x1 = y1) (h2 : x2 = y2) : t1 x1 x2 = t1 y1 y2 := by subst h1; subst h2; rfl
def p1 (k : Nat) : Nat → T1
  | 0 => fun _ _ _ _ => none
  | n1 + 1 => t1 (p1 k n1) (p2 k)
theorem o1 (k : Nat) : ∀ n1, l1 k n1 = p1 k n1 := by
  intro n1
  induction n1 with
  | zero => kernel_rfl
  | succ n1 ih => exact (Eq.trans (b := u1 k (n1 + 1)) (g1 k n1) (Eq.trans (b := t1 (l1 k n1) (l2 k)) (e1 k n1) (Eq.trans (b := t1 (p1 k n1) (p2 k)) (d1 ih (o2 k)) (by kernel_rfl))))
def t0 (f1 : T1) : T0 := fun (x0 : List (List (Int))) (x1 x2 : Int) => 
  (f1 x0 x1 x2 (0 : Int))
theorem e0 (k : Nat) : u0 k = t0 (l1 k k) := by kernel_rfl
theorem d0 {x1 y1 : T1} (h1 : x1 = y1) : t0 x1 = t0 y1 := by subst h1; rfl
def p0 (k : Nat) : T0 := t0 (p1 k k)
theorem o0 (k : Nat) : u0 k = p0 k := (Eq.trans (b := t0 (l1 k k)) (e0 k) (Eq.trans (b := t0 (p1 k k)) (d0 (o1 k k)) (by kernel_rfl)))
end ref05_Alike
def s_ref05_Alike (a : (List (List (Int))) × ((Int) × ((Int) × (Unit)))) : Option ((Bool) × (Unit)) := ref05_Alike.p0 (fuel) a.1 a.2.1 a.2.2.1
noncomputable def F_ref05_Alike : FSpec cx.toNm := { ps := [.val (.slice 25 (.agg (.arr 4 (.int .u64)))), .val (.int .u8), .val (.int .u8)], nres := 1, rt := .bool, rm := .ro, f := s_ref05_Alike }
theorem w_ref05_Alike (a : (List (List (Int))) × ((Int) × ((Int) × (Unit)))) : runOf (S := cx) ref05_Alike.E ref05_Alike.h (fuel) Try.f15 F_ref05_Alike.ps F_ref05_Alike.rt F_ref05_Alike.rm a = F_ref05_Alike.f a := Eq.trans (b := ref05_Alike.u0 (fuel) a.1 a.2.1 a.2.2.1) (by kernel_rfl) (Eq.trans (b := ref05_Alike.p0 (fuel) a.1 a.2.1 a.2.2.1) (congrFun (congrFun (congrFun (ref05_Alike.o0 (fuel)) a.1) a.2.1) a.2.2.1) (by kernel_rfl))
theorem ok_ref05_Alike : FnOk Try.prog F_ref05_Alike 15 := fn_of (hn := ref05_Alike.h) (E := ref05_Alike.E) cxOk (tysT _) (fs_cons ok_ref05_Has fs_nil) follows Try.func15 (by kernel_rfl) (fun a r h => ⟨fuel, Eq.trans (w_ref05_Alike a) h⟩)
namespace ref05_Classes
noncomputable def E : Env cx := { tys := tys, fs := fsOf [(15, F_ref05_Alike)] }
abbrev R := Option (((List (Int)) × (Int)) × (Unit))
abbrev C := Exit → ST cx → R
noncomputable def b : Code := bodyC Try.f13
noncomputable def h : Hint := { vs := [0, 2, 3, 4, 5, 6, 7, 8], nil := [(4, (.own .ro))], cuts := [(4, ([0, 4, 5, 6], []), ([4, 5], [])), (5, ([0, 4, 5, 6], []), ([0, 4, 5, 6], [])), (8, ([0, 4, 5, 6, 7, 8], []), ([0, 4, 5, 6, 7], [])), (9, ([0, 4, 5, 6, 7, 8], []), ([0, 4, 5, 6, 7, 8], [])), (10, ([0, 4, 5, 6, 7, 8], []), ([0, 4, 5, 6, 7, 8], [])), (12, ([0, 4, 5, 6, 7], []), ([0, 4, 5, 6], [])), (15, ([0, 4, 5, 6, 7], []), ([0, 4, 5, 6], [])), (16, ([4, 5], []), ([4, 5], [])), (1000002, ([0, 4, 5, 6, 7, 8, 19], []), ([0, 4, 5, 6, 7, 8], []))], ret := ([2, 3], []), ords := [] }
noncomputable def K0 : C := fin (S := cx) E Try.f13.results.toList (.pair (.slice 3 (.int .i64)) (.int .i64)) .ro [] []
noncomputable def c0 : Code := subC b [1]
noncomputable def K1 (k : Nat) : C := outD h c0 K0
noncomputable def K2 (k : Nat) : C := seqC E h k c0 K0
noncomputable def c1 : Code := subC b [1, 1]
noncomputable def K3 (k : Nat) : C := outD h c1 (K1 k)
noncomputable def K4 (k : Nat) : C := seqC E h k c1 (K1 k)
noncomputable def c2 : Code := subC b [1, 1, 1]
noncomputable def K5 (k : Nat) : C := outD h c2 (K3 k)
noncomputable def K6 (k : Nat) : C := seqC E h k c2 (K3 k)
noncomputable def c3 : Code := subC b [1, 1, 1, 1]
noncomputable def K7 (k : Nat) : C := outD h c3 (K5 k)
noncomputable def K8 (k : Nat) : C := seqC E h k c3 (K5 k)
noncomputable def c4 : Code := subC b [1, 1, 1, 0, 1]
noncomputable def K9 (k : Nat) : C := outD h c4 (K8 k)
noncomputable def K10 (k : Nat) : C := seqC E h k c4 (K8 k)
noncomputable def K11 (k : Nat) : C := blockK 0 (K9 k)
noncomputable def c5 : Code := subC b [1, 1, 1, 0, 1, 0, 0]
noncomputable def K12 (k n1 : Nat) : C := loopD E h k c5 (K11 k) n1
noncomputable def c6 : Code := subC b [1, 1, 1, 0, 1, 0, 0, 1]
noncomputable def K13 (k n1 : Nat) : C := outD h c6 (K12 k n1)
noncomputable def K14 (k n1 : Nat) : C := seqC E h k c6 (K12 k n1)
noncomputable def c7 : Code := subC b [1, 1, 1, 0, 1, 0, 0, 0, 1]
noncomputable def K15 (k n1 : Nat) : C := outD h c7 (K14 k n1)
noncomputable def K16 (k n1 : Nat) : C := seqC E h k c7 (K14 k n1)
noncomputable def c8 : Code := subC b [1, 1, 1, 0, 1, 0, 0, 1, 1]
noncomputable def K17 (k n1 : Nat) : C := outD h c8 (K13 k n1)
noncomputable def K18 (k n1 : Nat) : C := seqC E h k c8 (K13 k n1)
noncomputable def K19 (k n1 : Nat) : C := blockK 1 (K18 k n1)
noncomputable def c9 : Code := subC b [1, 1, 1, 0, 1, 0, 0, 1, 0, 0, 1]
noncomputable def K20 (k n1 : Nat) : C := outD h c9 (K19 k n1)
noncomputable def K21 (k n1 : Nat) : C := seqC E h k c9 (K19 k n1)
noncomputable def c10 : Code := subC b [1, 1, 1, 0, 1, 0, 0, 1, 0, 0, 1, 1]
noncomputable def K22 (k n1 : Nat) : C := outD h c10 (K20 k n1)
noncomputable def K23 (k n1 : Nat) : C := seqC E h k c10 (K20 k n1)
noncomputable def c11 : Code := subC b [1, 1, 1, 0, 1, 0, 0, 1, 0, 0, 1, 0, 1]
noncomputable def K24 (k n1 : Nat) : C := outD h c11 (K23 k n1)
noncomputable def K25 (k n1 : Nat) : C := seqC E h k c11 (K23 k n1)
noncomputable def K26 (k n1 : Nat) : C := blockK 2 (K24 k n1)
noncomputable def c12 : Code := subC b [1, 1, 1, 0, 1, 0, 0, 1, 0, 0, 1, 0, 1, 0, 0]
noncomputable def K27 (k n1 n2 : Nat) : C := loopD E h k c12 (K26 k n1) n2
noncomputable def c13 : Code := subC b [1, 1, 1, 0, 1, 0, 0, 1, 0, 0, 1, 0, 1, 0, 0, 1]
noncomputable def K28 (k n1 n2 : Nat) : C := outD h c13 (K27 k n1 n2)
noncomputable def K29 (k n1 n2 : Nat) : C := seqC E h k c13 (K27 k n1 n2)
noncomputable def c14 : Code := subC b [1, 1, 1, 0, 1, 0, 0, 1, 0, 0, 1, 0, 1, 0, 0, 0, 1]
noncomputable def K30 (k n1 n2 : Nat) : C := outD h c14 (K29 k n1 n2)
noncomputable def K31 (k n1 n2 : Nat) : C := seqC E h k c14 (K29 k n1 n2)
noncomputable def c15 : Code := subC b [1, 1, 1, 0, 1, 0, 0, 1, 0, 0, 1, 0, 1, 0, 0, 1, 1]
noncomputable def K32 (k n1 n2 : Nat) : C := outD h c15 (K28 k n1 n2)
noncomputable def K33 (k n1 n2 : Nat) : C := seqC E h k c15 (K28 k n1 n2)
noncomputable def K34 (k n1 n2 : Nat) : C := blockK 3 (K33 k n1 n2)
noncomputable def c16 : Code := subC b [1, 1, 1, 0, 1, 0, 0, 1, 0, 0, 1, 0, 1, 0, 0, 1, 0, 0, 1]
noncomputable def K35 (k n1 n2 : Nat) : C := outD h c16 (K34 k n1 n2)
noncomputable def K36 (k n1 n2 : Nat) : C := seqC E h k c16 (K34 k n1 n2)
noncomputable def c17 : Code := subC b [1, 1, 1, 0, 1, 0, 0, 1, 0, 0, 1, 1, 1]
noncomputable def K37 (k n1 : Nat) : C := outD h c17 (K22 k n1)
noncomputable def K38 (k n1 : Nat) : C := seqC E h k c17 (K22 k n1)
noncomputable def c18 : Code := subC b [1, 1, 1, 0, 1, 0, 0, 1, 0, 0, 1, 1, 0, 1]
noncomputable def K39 (k n1 : Nat) : C := outD h c18 (K38 k n1)
noncomputable def K40 (k n1 : Nat) : C := seqC E h k c18 (K38 k n1)
noncomputable def c19 : Code := subC b [1, 1, 1, 0, 1, 0, 0, 1, 0, 0, 1, 1, 0, 1, 0, 1]
noncomputable def K41 (k n1 : Nat) : C := outD h c19 (K39 k n1)
noncomputable def K42 (k n1 : Nat) : C := seqC E h k c19 (K39 k n1)
noncomputable def c20 : Code := subC b [1, 1, 1, 1, 1]
noncomputable def K43 (k : Nat) : C := outD h c20 (K7 k)
noncomputable def K44 (k : Nat) : C := seqC E h k c20 (K7 k)
abbrev T7 := (List (List (Int))) → (List (Int)) → Int → Int → Int → Int → R
abbrev T5 := (List (List (Int))) → (List (Int)) → Int → Int → Int → Int → R
abbrev T9 := (List (List (Int))) → (List (Int)) → Int → Int → R
abbrev T8 := (List (List (Int))) → (List (Int)) → Int → Int → Int → R
abbrev T6 := (List (List (Int))) → (List (Int)) → Int → Int → Int → R
abbrev T4 := (List (List (Int))) → (List (Int)) → Int → Int → Int → Int → Bool → R
abbrev T2 := (List (List (Int))) → (List (Int)) → Int → Int → Int → Int → R
abbrev T3 := (List (Int)) → Int → R
abbrev T1 := (List (List (Int))) → (List (Int)) → Int → Int → R
abbrev T0 := (List (List (Int))) → R
abbrev s7 : (List (List (Int))) → (List (Int)) → Int → Int → Int → Int → ST cx := fun (x0 : List (List (Int))) (x4 : List (Int)) (x5 x6 x7 x8 : Int) => ({ vars := [(0, .v (.slice 25 (.agg (.arr 4 (.int .u64)))) .ro x0), (4, .v (.slice 3 (.int .i64)) (.own .ro) x4), (5, .v (.int .i64) .ro x5), (6, .v (.int .i64) .ro x6), (7, .v (.int .i64) .ro x7), (8, .v (.int .i64) .ro x8)], scr := [], mems := [] } : ST cx)
noncomputable def u7 (k n1 n2 : Nat) : T7 := fun (x0 : List (List (Int))) (x4 : List (Int)) (x5 x6 x7 x8 : Int) => uK (run E h k c15) (s7 x0 x4 x5 x6 x7 x8) (K32 k n1 n2)
noncomputable abbrev l7 (k n1 n2 : Nat) : T7 := fun (x0 : List (List (Int))) (x4 : List (Int)) (x5 x6 x7 x8 : Int) => cutK (run E h k c15) (s7 x0 x4 x5 x6 x7 x8) (K32 k n1 n2)
abbrev s5 : (List (List (Int))) → (List (Int)) → Int → Int → Int → Int → ST cx := fun (x0 : List (List (Int))) (x4 : List (Int)) (x5 x6 x7 x8 : Int) => ({ vars := [(0, .v (.slice 25 (.agg (.arr 4 (.int .u64)))) .ro x0), (4, .v (.slice 3 (.int .i64)) (.own .ro) x4), (5, .v (.int .i64) .ro x5), (6, .v (.int .i64) .ro x6), (7, .v (.int .i64) .ro x7), (8, .v (.int .i64) .ro x8)], scr := [], mems := [] } : ST cx)
noncomputable def u5 (k n1 n2 : Nat) : T5 := fun (x0 : List (List (Int))) (x4 : List (Int)) (x5 x6 x7 x8 : Int) => uK (run E h k c13) (s5 x0 x4 x5 x6 x7 x8) (K28 k n1 n2)
noncomputable abbrev l5 (k n1 n2 : Nat) : T5 := fun (x0 : List (List (Int))) (x4 : List (Int)) (x5 x6 x7 x8 : Int) => cutK (run E h k c13) (s5 x0 x4 x5 x6 x7 x8) (K28 k n1 n2)
abbrev s9 : (List (List (Int))) → (List (Int)) → Int → Int → ST cx := fun (x0 : List (List (Int))) (x4 : List (Int)) (x5 x6 : Int) => ({ vars := [(0, .v (.slice 25 (.agg (.arr 4 (.int .u64)))) .ro x0), (4, .v (.slice 3 (.int .i64)) (.own .ro) x4), (5, .v (.int .i64) .ro x5), (6, .v (.int .i64) .ro x6)], scr := [], mems := [] } : ST cx)
noncomputable def u9 (k n1 : Nat) : T9 := fun (x0 : List (List (Int))) (x4 : List (Int)) (x5 x6 : Int) => uK (run E h k c8) (s9 x0 x4 x5 x6) (K17 k n1)
noncomputable abbrev l9 (k n1 : Nat) : T9 := fun (x0 : List (List (Int))) (x4 : List (Int)) (x5 x6 : Int) => cutK (run E h k c8) (s9 x0 x4 x5 x6) (K17 k n1)
abbrev s8 : (List (List (Int))) → (List (Int)) → Int → Int → Int → ST cx := fun (x0 : List (List (Int))) (x4 : List (Int)) (x5 x6 x7 : Int) => ({ vars := [(0, .v (.slice 25 (.agg (.arr 4 (.int .u64)))) .ro x0), (4, .v (.slice 3 (.int .i64)) (.own .ro) x4), (5, .v (.int .i64) .ro x5), (6, .v (.int .i64) .ro x6), (7, .v (.int .i64) .ro x7)], scr := [], mems := [] } : ST cx)
noncomputable def u8 (k n1 : Nat) : T8 := fun (x0 : List (List (Int))) (x4 : List (Int)) (x5 x6 x7 : Int) => uK (run E h k c17) (s8 x0 x4 x5 x6 x7) (K37 k n1)
noncomputable abbrev l8 (k n1 : Nat) : T8 := fun (x0 : List (List (Int))) (x4 : List (Int)) (x5 x6 x7 : Int) => cutK (run E h k c17) (s8 x0 x4 x5 x6 x7) (K37 k n1)
abbrev s6 : (List (List (Int))) → (List (Int)) → Int → Int → Int → ST cx := fun (x0 : List (List (Int))) (x4 : List (Int)) (x5 x6 x7 : Int) => ({ vars := [(0, .v (.slice 25 (.agg (.arr 4 (.int .u64)))) .ro x0), (4, .v (.slice 3 (.int .i64)) (.own .ro) x4), (5, .v (.int .i64) .ro x5), (6, .v (.int .i64) .ro x6), (7, .v (.int .i64) .ro x7)], scr := [], mems := [] } : ST cx)
noncomputable def u6 (k n1 : Nat) : T6 := fun (x0 : List (List (Int))) (x4 : List (Int)) (x5 x6 x7 : Int) => uK (run E h k c10) (s6 x0 x4 x5 x6 x7) (K22 k n1)
noncomputable abbrev l6 (k n1 : Nat) : T6 := fun (x0 : List (List (Int))) (x4 : List (Int)) (x5 x6 x7 : Int) => cutK (run E h k c10) (s6 x0 x4 x5 x6 x7) (K22 k n1)
abbrev s4 : (List (List (Int))) → (List (Int)) → Int → Int → Int → Int → Bool → ST cx := fun (x0 : List (List (Int))) (x4 : List (Int)) (x5 x6 x7 x8 : Int) (x19 : Bool) => ({ vars := [(0, .v (.slice 25 (.agg (.arr 4 (.int .u64)))) .ro x0), (4, .v (.slice 3 (.int .i64)) (.own .ro) x4), (5, .v (.int .i64) .ro x5), (6, .v (.int .i64) .ro x6), (7, .v (.int .i64) .ro x7), (8, .v (.int .i64) .ro x8), (19, .v .bool .ro x19)], scr := [], mems := [] } : ST cx)
noncomputable def u4 (k n1 n2 : Nat) : T4 := fun (x0 : List (List (Int))) (x4 : List (Int)) (x5 x6 x7 x8 : Int) (x19 : Bool) => uK (run E h k c14) (s4 x0 x4 x5 x6 x7 x8 x19) (K30 k n1 n2)
noncomputable abbrev l4 (k n1 n2 : Nat) : T4 := fun (x0 : List (List (Int))) (x4 : List (Int)) (x5 x6 x7 x8 : Int) (x19 : Bool) => cutK (run E h k c14) (s4 x0 x4 x5 x6 x7 x8 x19) (K30 k n1 n2)
abbrev s2 : (List (List (Int))) → (List (Int)) → Int → Int → Int → Int → ST cx := fun (x0 : List (List (Int))) (x4 : List (Int)) (x5 x6 x7 x8 : Int) => ({ vars := [(0, .v (.slice 25 (.agg (.arr 4 (.int .u64)))) .ro x0), (4, .v (.slice 3 (.int .i64)) (.own .ro) x4), (5, .v (.int .i64) .ro x5), (6, .v (.int .i64) .ro x6), (7, .v (.int .i64) .ro x7), (8, .v (.int .i64) .ro x8)], scr := [], mems := [] } : ST cx)
noncomputable def u2 (k n1 n2 : Nat) : T2 := fun (x0 : List (List (Int))) (x4 : List (Int)) (x5 x6 x7 x8 : Int) => uK (loopL E h k c12 (K26 k n1) n2) (s2 x0 x4 x5 x6 x7 x8) ()
noncomputable abbrev l2 (k n1 n2 : Nat) : T2 := fun (x0 : List (List (Int))) (x4 : List (Int)) (x5 x6 x7 x8 : Int) => cutK (loopL E h k c12 (K26 k n1) n2) (s2 x0 x4 x5 x6 x7 x8) ()
abbrev s3 : (List (Int)) → Int → ST cx := fun (x4 : List (Int)) (x5 : Int) => ({ vars := [(4, .v (.slice 3 (.int .i64)) (.own .ro) x4), (5, .v (.int .i64) .ro x5)], scr := [], mems := [] } : ST cx)
noncomputable def u3 (k : Nat) : T3 := fun (x4 : List (Int)) (x5 : Int) => uK (run E h k c3) (s3 x4 x5) (K7 k)
noncomputable abbrev l3 (k : Nat) : T3 := fun (x4 : List (Int)) (x5 : Int) => cutK (run E h k c3) (s3 x4 x5) (K7 k)
abbrev s1 : (List (List (Int))) → (List (Int)) → Int → Int → ST cx := fun (x0 : List (List (Int))) (x4 : List (Int)) (x5 x6 : Int) => ({ vars := [(0, .v (.slice 25 (.agg (.arr 4 (.int .u64)))) .ro x0), (4, .v (.slice 3 (.int .i64)) (.own .ro) x4), (5, .v (.int .i64) .ro x5), (6, .v (.int .i64) .ro x6)], scr := [], mems := [] } : ST cx)
noncomputable def u1 (k n1 : Nat) : T1 := fun (x0 : List (List (Int))) (x4 : List (Int)) (x5 x6 : Int) => uK (loopL E h k c5 (K11 k) n1) (s1 x0 x4 x5 x6) ()
noncomputable abbrev l1 (k n1 : Nat) : T1 := fun (x0 : List (List (Int))) (x4 : List (Int)) (x5 x6 : Int) => cutK (loopL E h k c5 (K11 k) n1) (s1 x0 x4 x5 x6) ()
noncomputable def u0 (k : Nat) : T0 := fun (x0 : List (List (Int))) => runOf (S := cx) E h k Try.f13 [.val (.slice 25 (.agg (.arr 4 (.int .u64))))] (.pair (.slice 3 (.int .i64)) (.int .i64)) .ro (x0, ())
def t7 (f2 : T2) : T7 := fun (x0 : List (List (Int))) (x4 : List (Int)) (x5 x6 x7 x8 : Int) => 
  (f2 x0 x4 x5 x6 x7 (w64 (x8 + (1 : Int))))
theorem e7 (k n1 n2 : Nat) : u7 k n1 n2 = t7 (l2 k n1 n2) := by kernel_rfl
theorem g7 (k n1 n2 : Nat) : l7 k n1 n2 = u7 k n1 n2 := funext fun _ => funext fun _ => funext fun _ => funext fun _ => funext fun _ => funext fun _ => cut_u _ _ _
theorem d7 {x2 y2 : T2} (h2 : x2 = y2) : t7 x2 = t7 y2 := by subst h2; rfl
def p7 (k : Nat) (a1 : T1) (a2 : T2) : T7 := t7 a2
theorem o7 (k n1 n2 : Nat) (a1 : T1) (a2 : T2) (h1 : l1 k n1 = a1) (h2 : l2 k n1 n2 = a2) : l7 k n1 n2 = p7 k a1 a2 := (Eq.trans (b := u7 k n1 n2) (g7 k n1 n2) (Eq.trans (b := t7 (l2 k n1 n2)) (e7 k n1 n2) (Eq.trans (b := t7 a2) (d7 h2) (by kernel_rfl))))
def t5 (f7 : T7) : T5 := fun (x0 : List (List (Int))) (x4 : List (Int)) (x5 x6 x7 x8 : Int) => 
  (bindR (s_ref05_Alike (x0, ((w8 (x6)), ((w8 (x8)), ())))) fun r1 => (iteB r1.1 (withinR x8 (List.length x4) fun q2 => (f7 x0 x4 x5 x6 (List.getD x4 q2 (0 : Int)) x8)) (f7 x0 x4 x5 x6 x7 x8)))
theorem e5 (k n1 n2 : Nat) : u5 k n1 n2 = t5 (l7 k n1 n2) := by kernel_rfl
theorem g5 (k n1 n2 : Nat) : l5 k n1 n2 = u5 k n1 n2 := funext fun _ => funext fun _ => funext fun _ => funext fun _ => funext fun _ => funext fun _ => cut_u _ _ _
theorem d5 {x7 y7 : T7} (h7 : x7 = y7) : t5 x7 = t5 y7 := by subst h7; rfl
def p5 (k : Nat) (a1 : T1) (a2 : T2) : T5 := t5 (p7 k a1 a2)
theorem o5 (k n1 n2 : Nat) (a1 : T1) (a2 : T2) (h1 : l1 k n1 = a1) (h2 : l2 k n1 n2 = a2) : l5 k n1 n2 = p5 k a1 a2 := (Eq.trans (b := u5 k n1 n2) (g5 k n1 n2) (Eq.trans (b := t5 (l7 k n1 n2)) (e5 k n1 n2) (Eq.trans (b := t5 (p7 k a1 a2)) (d5 (o7 k n1 n2 a1 a2 h1 h2)) (by kernel_rfl))))
def t9 (f1 : T1) : T9 := fun (x0 : List (List (Int))) (x4 : List (Int)) (x5 x6 : Int) => 
  (f1 x0 x4 x5 (w64 (x6 + (1 : Int))))
theorem e9 (k n1 : Nat) : u9 k n1 = t9 (l1 k n1) := by kernel_rfl
theorem g9 (k n1 : Nat) : l9 k n1 = u9 k n1 := funext fun _ => funext fun _ => funext fun _ => funext fun _ => cut_u _ _ _
theorem d9 {x1 y1 : T1} (h1 : x1 = y1) : t9 x1 = t9 y1 := by subst h1; rfl
def p9 (k : Nat) (a1 : T1) : T9 := t9 a1
theorem o9 (k n1 : Nat) (a1 : T1) (h1 : l1 k n1 = a1) : l9 k n1 = p9 k a1 := (Eq.trans (b := u9 k n1) (g9 k n1) (Eq.trans (b := t9 (l1 k n1)) (e9 k n1) (Eq.trans (b := t9 a1) (d9 h1) (by kernel_rfl))))
def t8 (f9 : T9) : T8 := fun (x0 : List (List (Int))) (x4 : List (Int)) (x5 x6 x7 : Int) => 
  (mustR (room x4 ([x7] : List (Int))) (f9 x0 (x4 ++ ([x7] : List (Int))) x5 x6))
theorem e8 (k n1 : Nat) : u8 k n1 = t8 (l9 k n1) := by kernel_rfl
theorem g8 (k n1 : Nat) : l8 k n1 = u8 k n1 := funext fun _ => funext fun _ => funext fun _ => funext fun _ => funext fun _ => cut_u _ _ _
theorem d8 {x9 y9 : T9} (h9 : x9 = y9) : t8 x9 = t8 y9 := by subst h9; rfl
def p8 (k : Nat) (a1 : T1) : T8 := t8 (p9 k a1)
theorem o8 (k n1 : Nat) (a1 : T1) (h1 : l1 k n1 = a1) : l8 k n1 = p8 k a1 := (Eq.trans (b := u8 k n1) (g8 k n1) (Eq.trans (b := t8 (l9 k n1)) (e8 k n1) (Eq.trans (b := t8 (p9 k a1)) (d8 (o9 k n1 a1 h1)) (by kernel_rfl))))
def t6 (f8 : T8) : T6 := fun (x0 : List (List (Int))) (x4 : List (Int)) (x5 x6 x7 : Int) => 
  (iteB (decide (x7 < (0 : Int))) (f8 x0 x4 (w64 (x5 + (1 : Int))) x6 x5) (f8 x0 x4 x5 x6 x7))
theorem e6 (k n1 : Nat) : u6 k n1 = t6 (l8 k n1) := by kernel_rfl
theorem g6 (k n1 : Nat) : l6 k n1 = u6 k n1 := funext fun _ => funext fun _ => funext fun _ => funext fun _ => funext fun _ => cut_u _ _ _
theorem d6 {x8 y8 : T8} (h8 : x8 = y8) : t6 x8 = t6 y8 := by subst h8; rfl
def p6 (k : Nat) (a1 : T1) : T6 := t6 (p8 k a1)
theorem o6 (k n1 : Nat) (a1 : T1) (h1 : l1 k n1 = a1) : l6 k n1 = p6 k a1 := (Eq.trans (b := u6 k n1) (g6 k n1) (Eq.trans (b := t6 (l8 k n1)) (e6 k n1) (Eq.trans (b := t6 (p8 k a1)) (d6 (o8 k n1 a1 h1)) (by kernel_rfl))))
def t4 (f5 : T5) (f6 : T6) : T4 := fun (x0 : List (List (Int))) (x4 : List (Int)) (x5 x6 x7 x8 : Int) (x19 : Bool) => 
  (iteB x19 (f5 x0 x4 x5 x6 x7 x8) (f6 x0 x4 x5 x6 x7))
theorem e4 (k n1 n2 : Nat) : u4 k n1 n2 = t4 (l5 k n1 n2) (l6 k n1) := by kernel_rfl
theorem g4 (k n1 n2 : Nat) : l4 k n1 n2 = u4 k n1 n2 := funext fun _ => funext fun _ => funext fun _ => funext fun _ => funext fun _ => funext fun _ => funext fun _ => cut_u _ _ _
theorem d4 {x5 y5 : T5} {x6 y6 : T6} (h5 : x5 = y5) (h6 : x6 = y6) : t4 x5 x6 = t4 y5 y6 := by subst h5; subst h6; rfl
def p4 (k : Nat) (a1 : T1) (a2 : T2) : T4 := t4 (p5 k a1 a2) (p6 k a1)
theorem o4 (k n1 n2 : Nat) (a1 : T1) (a2 : T2) (h1 : l1 k n1 = a1) (h2 : l2 k n1 n2 = a2) : l4 k n1 n2 = p4 k a1 a2 := (Eq.trans (b := u4 k n1 n2) (g4 k n1 n2) (Eq.trans (b := t4 (l5 k n1 n2) (l6 k n1)) (e4 k n1 n2) (Eq.trans (b := t4 (p5 k a1 a2) (p6 k a1)) (d4 (o5 k n1 n2 a1 a2 h1 h2) (o6 k n1 a1 h1)) (by kernel_rfl))))
def t2 (f4 : T4) : T2 := fun (x0 : List (List (Int))) (x4 : List (Int)) (x5 x6 x7 x8 : Int) => 
  (iteB (decide (x8 < x6)) (f4 x0 x4 x5 x6 x7 x8 (decide (x7 < (0 : Int)))) (f4 x0 x4 x5 x6 x7 x8 false))
theorem e2 (k n1 n2 : Nat) : u2 k n1 (n2 + 1) = t2 (l4 k n1 n2) := by kernel_rfl
theorem g2 (k n1 n2 : Nat) : l2 k n1 (n2 + 1) = u2 k n1 (n2 + 1) := funext fun _ => funext fun _ => funext fun _ => funext fun _ => funext fun _ => funext fun _ => cut_u _ _ _
theorem d2 {x4 y4 : T4} (h4 : x4 = y4) : t2 x4 = t2 y4 := by subst h4; rfl
def p2 (k : Nat) (a1 : T1) : Nat → T2
  | 0 => fun _ _ _ _ _ _ => none
  | n2 + 1 => t2 (p4 k a1 (p2 k a1 n2))
theorem o2 (k n1 : Nat) (a1 : T1) (h1 : l1 k n1 = a1) : ∀ n2, l2 k n1 n2 = p2 k a1 n2 := by
  intro n2
  induction n2 with
  | zero => kernel_rfl
  | succ n2 ih => exact (Eq.trans (b := u2 k n1 (n2 + 1)) (g2 k n1 n2) (Eq.trans (b := t2 (l4 k n1 n2)) (e2 k n1 n2) (Eq.trans (b := t2 (p4 k a1 (p2 k a1 n2))) (d2 (o4 k n1 n2 a1 (p2 k a1 n2) h1 ih)) (by kernel_rfl))))
def t3 : T3 := fun (x4 : List (Int)) (x5 : Int) => 
  (some ((x4, x5), ()))
theorem e3 (k : Nat) : u3 k = t3 := by kernel_rfl
theorem g3 (k : Nat) : l3 k = u3 k := funext fun _ => funext fun _ => cut_u _ _ _
def p3 (k : Nat) : T3 := t3
theorem o3 (k : Nat) : l3 k = p3 k := (Eq.trans (b := u3 k) (g3 k) (Eq.trans (b := t3) (e3 k) (by kernel_rfl)))
def t1 (f2 : T2) (f3 : T3) : T1 := fun (x0 : List (List (Int))) (x4 : List (Int)) (x5 x6 : Int) => 
  (iteB (decide (x6 < (256 : Int))) (f2 x0 x4 x5 x6 (-1 : Int) (0 : Int)) (f3 x4 x5))
theorem e1 (k n1 : Nat) : u1 k (n1 + 1) = t1 (l2 k n1 k) (l3 k) := by kernel_rfl
theorem g1 (k n1 : Nat) : l1 k (n1 + 1) = u1 k (n1 + 1) := funext fun _ => funext fun _ => funext fun _ => funext fun _ => cut_u _ _ _
theorem d1 {x2 y2 : T2} {x3 y3 : T3} (h2 : x2 = y2) (h3 : x3 = y3) : t1 x2 x3 = t1 y2 y3 := by subst h2; subst h3; rfl
def p1 (k : Nat) : Nat → T1
  | 0 => fun _ _ _ _ => none
  | n1 + 1 => t1 (p2 k (p1 k n1) k) (p3 k)
theorem o1 (k : Nat) : ∀ n1, l1 k n1 = p1 k n1 := by
  intro n1
  induction n1 with
  | zero => kernel_rfl
  | succ n1 ih => exact (Eq.trans (b := u1 k (n1 + 1)) (g1 k n1) (Eq.trans (b := t1 (l2 k n1 k) (l3 k)) (e1 k n1) (Eq.trans (b := t1 (p2 k (p1 k n1) k) (p3 k)) (d1 (o2 k n1 (p1 k n1) ih k) (o3 k)) (by kernel_rfl))))
def t0 (f1 : T1) : T0 := fun (x0 : List (List (Int))) => 
  (f1 x0 ([] : List (Int)) (0 : Int) (0 : Int))
theorem e0 (k : Nat) : u0 k = t0 (l1 k k) := by kernel_rfl
theorem d0 {x1 y1 : T1} (h1 : x1 = y1) : t0 x1 = t0 y1 := by subst h1; rfl
def p0 (k : Nat) : T0 := t0 (p1 k k)
theorem o0 (k : Nat) : u0 k = p0 k := (Eq.trans (b := t0 (l1 k k)) (e0 k) (Eq.trans (b := t0 (p1 k k)) (d0 (o1 k k)) (by kernel_rfl)))
end ref05_Classes
def s_ref05_Classes (a : (List (List (Int))) × (Unit)) : Option (((List (Int)) × (Int)) × (Unit)) := ref05_Classes.p0 (fuel) a.1
noncomputable def F_ref05_Classes : FSpec cx.toNm := { ps := [.val (.slice 25 (.agg (.arr 4 (.int .u64))))], nres := 2, rt := (.pair (.slice 3 (.int .i64)) (.int .i64)), rm := .ro, f := s_ref05_Classes }
theorem w_ref05_Classes (a : (List (List (Int))) × (Unit)) : runOf (S := cx) ref05_Classes.E ref05_Classes.h (fuel) Try.f13 F_ref05_Classes.ps F_ref05_Classes.rt F_ref05_Classes.rm a = F_ref05_Classes.f a := Eq.trans (b := ref05_Classes.u0 (fuel) a.1) (by kernel_rfl) (Eq.trans (b := ref05_Classes.p0 (fuel) a.1) (congrFun (ref05_Classes.o0 (fuel)) a.1) (by kernel_rfl))
theorem ok_ref05_Classes : FnOk Try.prog F_ref05_Classes 13 := fn_of (hn := ref05_Classes.h) (E := ref05_Classes.E) cxOk (tysT _) (fs_cons ok_ref05_Alike fs_nil) follows Try.func13 (by kernel_rfl) (fun a r h => ⟨fuel, Eq.trans (w_ref05_Classes a) h⟩)
namespace bytesets_Class
noncomputable def E : Env cx := { tys := tys, fs := fsOf [(12, F_bytesets_Classes), (22, F_bytesets_those_l23)] }
abbrev R := Option ((List (Int)) × (Unit))
abbrev C := Exit → ST cx → R
noncomputable def b : Code := bodyC Try.f14
noncomputable def h : Hint := { vs := [0, 1, 3, 4, 5], nil := [], cuts := [], ret := ([4], [3, 4, 5]), ords := [] }
noncomputable def K0 : C := fin (S := cx) E Try.f14.results.toList (.agg (.arr 4 (.int .u64))) .ro [] []
noncomputable def c0 : Code := subC b [1]
noncomputable def K1 (k : Nat) : C := outD h c0 K0
noncomputable def K2 (k : Nat) : C := seqC E h k c0 K0
noncomputable def c1 : Code := subC b [1, 1]
noncomputable def K3 (k : Nat) : C := outD h c1 (K1 k)
noncomputable def K4 (k : Nat) : C := seqC E h k c1 (K1 k)
noncomputable def c2 : Code := subC b [1, 1, 1]
noncomputable def K5 (k : Nat) : C := outD h c2 (K3 k)
noncomputable def K6 (k : Nat) : C := seqC E h k c2 (K3 k)
abbrev T0 := (List (List (Int))) → Int → R
noncomputable def u0 (k : Nat) : T0 := fun (x0 : List (List (Int))) (x1 : Int) => runOf (S := cx) E h k Try.f14 [.val (.slice 25 (.agg (.arr 4 (.int .u64)))), .val (.int .i64)] (.agg (.arr 4 (.int .u64))) .ro (x0, x1, ())
def t0 : T0 := fun (x0 : List (List (Int))) (x1 : Int) => 
  (bindR (s_bytesets_Classes (x0, ())) fun r1 => (bindR (s_bytesets_those_l23 ((r1.1.1, (x1, ())), ())) fun r2 => (some (r2.1, ()))))
theorem e0 (k : Nat) : u0 k = t0 := by kernel_rfl
def p0 (k : Nat) : T0 := t0
theorem o0 (k : Nat) : u0 k = p0 k := (Eq.trans (b := t0) (e0 k) (by kernel_rfl))
end bytesets_Class
def s_bytesets_Class (a : (List (List (Int))) × ((Int) × (Unit))) : Option ((List (Int)) × (Unit)) := bytesets_Class.p0 (fuel) a.1 a.2.1
noncomputable def F_bytesets_Class : FSpec cx.toNm := { ps := [.val (.slice 25 (.agg (.arr 4 (.int .u64)))), .val (.int .i64)], nres := 1, rt := (.agg (.arr 4 (.int .u64))), rm := .ro, f := s_bytesets_Class }
theorem w_bytesets_Class (a : (List (List (Int))) × ((Int) × (Unit))) : runOf (S := cx) bytesets_Class.E bytesets_Class.h (fuel) Try.f14 F_bytesets_Class.ps F_bytesets_Class.rt F_bytesets_Class.rm a = F_bytesets_Class.f a := Eq.trans (b := bytesets_Class.u0 (fuel) a.1 a.2.1) (by kernel_rfl) (Eq.trans (b := bytesets_Class.p0 (fuel) a.1 a.2.1) (congrFun (congrFun (bytesets_Class.o0 (fuel)) a.1) a.2.1) (by kernel_rfl))
theorem ok_bytesets_Class : FnOk Try.prog F_bytesets_Class 14 := fn_of (hn := bytesets_Class.h) (E := bytesets_Class.E) cxOk (tysT _) (fs_cons ok_bytesets_Classes (fs_cons ok_bytesets_those_l23 fs_nil)) follows Try.func14 (by kernel_rfl) (fun a r h => ⟨fuel, Eq.trans (w_bytesets_Class a) h⟩)
namespace law05_BytesetsClasses
noncomputable def E : Env cx := { tys := tys, fs := fsOf [(6, F_law05_alive), (7, F_ref05_Has), (12, F_bytesets_Classes), (13, F_ref05_Classes), (14, F_bytesets_Class)] }
abbrev R := Option ((Bool) × (Unit))
abbrev C := Exit → ST cx → R
noncomputable def b : Code := bodyC Try.f4
noncomputable def h : Hint := { vs := [0, 1, 4, 5, 6, 7, 8, 9, 10], nil := [], cuts := [(11, ([1, 5, 7, 9, 10], [5, 9]), ([], [])), (12, ([1, 5, 7, 9, 10], [5, 9]), ([1, 5, 7, 9, 10], [5, 9])), (14, ([1, 5, 7, 9, 10, 57], [5, 9]), ([1, 5, 7, 9, 10], [5, 9])), (15, ([], []), ([], []))], ret := ([4], [5, 9]), ords := [(13, [0, 1, 2, 3, 4, 5, 6, 7, 8, 9, 10, 11, 12, 14, 15, 16, 17, 18, 19, 13, 20, 21])] }
noncomputable def K0 : C := fin (S := cx) E Try.f4.results.toList .bool .ro [] []
noncomputable def c0 : Code := subC b [1]
noncomputable def K1 (k : Nat) : C := outD h c0 K0
noncomputable def K2 (k : Nat) : C := seqC E h k c0 K0
noncomputable def c1 : Code := subC b [1, 1]
noncomputable def K3 (k : Nat) : C := outD h c1 (K1 k)
noncomputable def K4 (k : Nat) : C := seqC E h k c1 (K1 k)
noncomputable def c2 : Code := subC b [1, 0, 1]
noncomputable def K5 (k : Nat) : C := outD h c2 (K4 k)
noncomputable def K6 (k : Nat) : C := seqC E h k c2 (K4 k)
noncomputable def c3 : Code := subC b [1, 0, 1, 0, 1]
noncomputable def K7 (k : Nat) : C := outD h c3 (K5 k)
noncomputable def K8 (k : Nat) : C := seqC E h k c3 (K5 k)
noncomputable def c4 : Code := subC b [1, 1, 1]
noncomputable def K9 (k : Nat) : C := outD h c4 (K3 k)
noncomputable def K10 (k : Nat) : C := seqC E h k c4 (K3 k)
noncomputable def c5 : Code := subC b [1, 1, 0, 1]
noncomputable def K11 (k : Nat) : C := outD h c5 (K10 k)
noncomputable def K12 (k : Nat) : C := seqC E h k c5 (K10 k)
noncomputable def c6 : Code := subC b [1, 1, 0, 1, 0, 1]
noncomputable def K13 (k : Nat) : C := outD h c6 (K11 k)
noncomputable def K14 (k : Nat) : C := seqC E h k c6 (K11 k)
noncomputable def c7 : Code := subC b [1, 1, 1, 1]
noncomputable def K15 (k : Nat) : C := outD h c7 (K9 k)
noncomputable def K16 (k : Nat) : C := seqC E h k c7 (K9 k)
noncomputable def c8 : Code := subC b [1, 1, 1, 1, 1]
noncomputable def K17 (k : Nat) : C := outD h c8 (K15 k)
noncomputable def K18 (k : Nat) : C := seqC E h k c8 (K15 k)
noncomputable def c9 : Code := subC b [1, 1, 1, 1, 1, 1]
noncomputable def K19 (k : Nat) : C := outD h c9 (K17 k)
noncomputable def K20 (k : Nat) : C := seqC E h k c9 (K17 k)
noncomputable def c10 : Code := subC b [1, 1, 1, 1, 1, 0, 1]
noncomputable def K21 (k : Nat) : C := outD h c10 (K20 k)
noncomputable def K22 (k : Nat) : C := seqC E h k c10 (K20 k)
noncomputable def c11 : Code := subC b [1, 1, 1, 1, 1, 0, 1, 0, 1]
noncomputable def K23 (k : Nat) : C := outD h c11 (K21 k)
noncomputable def K24 (k : Nat) : C := seqC E h k c11 (K21 k)
noncomputable def c12 : Code := subC b [1, 1, 1, 1, 1, 1, 1]
noncomputable def K25 (k : Nat) : C := outD h c12 (K19 k)
noncomputable def K26 (k : Nat) : C := seqC E h k c12 (K19 k)
noncomputable def c13 : Code := subC b [1, 1, 1, 1, 1, 1, 1, 1]
noncomputable def K27 (k : Nat) : C := outD h c13 (K25 k)
noncomputable def K28 (k : Nat) : C := seqC E h k c13 (K25 k)
noncomputable def c14 : Code := subC b [1, 1, 1, 1, 1, 1, 1, 0, 1]
noncomputable def K29 (k : Nat) : C := outD h c14 (K28 k)
noncomputable def K30 (k : Nat) : C := seqC E h k c14 (K28 k)
noncomputable def K31 (k : Nat) : C := blockK 0 (K29 k)
noncomputable def c15 : Code := subC b [1, 1, 1, 1, 1, 1, 1, 0, 1, 0, 0]
noncomputable def K32 (k n1 : Nat) : C := loopD E h k c15 (K31 k) n1
noncomputable def c16 : Code := subC b [1, 1, 1, 1, 1, 1, 1, 0, 1, 0, 0, 1]
noncomputable def K33 (k n1 : Nat) : C := outD h c16 (K32 k n1)
noncomputable def K34 (k n1 : Nat) : C := seqC E h k c16 (K32 k n1)
noncomputable def c17 : Code := subC b [1, 1, 1, 1, 1, 1, 1, 0, 1, 0, 0, 0, 1]
noncomputable def K35 (k n1 : Nat) : C := outD h c17 (K34 k n1)
noncomputable def K36 (k n1 : Nat) : C := seqC E h k c17 (K34 k n1)
noncomputable def c18 : Code := subC b [1, 1, 1, 1, 1, 1, 1, 0, 1, 0, 0, 1, 1]
noncomputable def K37 (k n1 : Nat) : C := outD h c18 (K33 k n1)
noncomputable def K38 (k n1 : Nat) : C := seqC E h k c18 (K33 k n1)
noncomputable def K39 (k n1 : Nat) : C := blockK 1 (K38 k n1)
noncomputable def c19 : Code := subC b [1, 1, 1, 1, 1, 1, 1, 0, 1, 0, 0, 1, 0, 0, 1]
noncomputable def K40 (k n1 : Nat) : C := outD h c19 (K39 k n1)
noncomputable def K41 (k n1 : Nat) : C := seqC E h k c19 (K39 k n1)
noncomputable def c20 : Code := subC b [1, 1, 1, 1, 1, 1, 1, 0, 1, 0, 0, 1, 0, 0, 1, 0, 1]
noncomputable def K42 (k n1 : Nat) : C := outD h c20 (K40 k n1)
noncomputable def K43 (k n1 : Nat) : C := seqC E h k c20 (K40 k n1)
noncomputable def c21 : Code := subC b [1, 1, 1, 1, 1, 1, 1, 1, 1]
noncomputable def K44 (k : Nat) : C := outD h c21 (K27 k)
noncomputable def K45 (k : Nat) : C := seqC E h k c21 (K27 k)
abbrev T4 := Int → (List (Int)) → Int → (List (Int)) → (List (Int)) → R
abbrev T2 := Int → (List (Int)) → Int → Bool → (List (Int)) → (List (Int)) → R
abbrev T3 := R
abbrev T1 := Int → (List (Int)) → Int → (List (Int)) → (List (Int)) → R
abbrev T0 := (List (List (Int))) → Int → R
abbrev s4 : Int → (List (Int)) → Int → (List (Int)) → (List (Int)) → ST cx := fun (x1 : Int) (x7 : List (Int)) (x10 : Int) (m5 m9 : List (Int)) => ({ vars := [(1, .v (.int .i64) .ro x1), (5, .addr (.mem 5) []), (7, .v (.slice 3 (.int .i64)) .ro x7), (9, .addr (.mem 9) []), (10, .v (.int .i64) .ro x10)], scr := [], mems := [(5, ⟨(.agg (.arr 256 (.int .u8))), .ro, m5⟩), (9, ⟨(.agg (.arr 4 (.int .u64))), .ro, m9⟩)] } : ST cx)
noncomputable def u4 (k n1 : Nat) : T4 := fun (x1 : Int) (x7 : List (Int)) (x10 : Int) (m5 m9 : List (Int)) => uK (run E h k c18) (s4 x1 x7 x10 m5 m9) (K37 k n1)
noncomputable abbrev l4 (k n1 : Nat) : T4 := fun (x1 : Int) (x7 : List (Int)) (x10 : Int) (m5 m9 : List (Int)) => cutK (run E h k c18) (s4 x1 x7 x10 m5 m9) (K37 k n1)
abbrev s2 : Int → (List (Int)) → Int → Bool → (List (Int)) → (List (Int)) → ST cx := fun (x1 : Int) (x7 : List (Int)) (x10 : Int) (x57 : Bool) (m5 m9 : List (Int)) => ({ vars := [(1, .v (.int .i64) .ro x1), (5, .addr (.mem 5) []), (7, .v (.slice 3 (.int .i64)) .ro x7), (9, .addr (.mem 9) []), (10, .v (.int .i64) .ro x10), (57, .v .bool .ro x57)], scr := [], mems := [(5, ⟨(.agg (.arr 256 (.int .u8))), .ro, m5⟩), (9, ⟨(.agg (.arr 4 (.int .u64))), .ro, m9⟩)] } : ST cx)
noncomputable def u2 (k n1 : Nat) : T2 := fun (x1 : Int) (x7 : List (Int)) (x10 : Int) (x57 : Bool) (m5 m9 : List (Int)) => uK (run E h k c19) (s2 x1 x7 x10 x57 m5 m9) (K40 k n1)
noncomputable abbrev l2 (k n1 : Nat) : T2 := fun (x1 : Int) (x7 : List (Int)) (x10 : Int) (x57 : Bool) (m5 m9 : List (Int)) => cutK (run E h k c19) (s2 x1 x7 x10 x57 m5 m9) (K40 k n1)
abbrev s3 : ST cx := ({ vars := [], scr := [], mems := [] } : ST cx)
noncomputable def u3 (k : Nat) : T3 := uK (run E h k c13) s3 (K27 k)
noncomputable abbrev l3 (k : Nat) : T3 := cutK (run E h k c13) s3 (K27 k)
abbrev s1 : Int → (List (Int)) → Int → (List (Int)) → (List (Int)) → ST cx := fun (x1 : Int) (x7 : List (Int)) (x10 : Int) (m5 m9 : List (Int)) => ({ vars := [(1, .v (.int .i64) .ro x1), (5, .addr (.mem 5) []), (7, .v (.slice 3 (.int .i64)) .ro x7), (9, .addr (.mem 9) []), (10, .v (.int .i64) .ro x10)], scr := [], mems := [(5, ⟨(.agg (.arr 256 (.int .u8))), .ro, m5⟩), (9, ⟨(.agg (.arr 4 (.int .u64))), .ro, m9⟩)] } : ST cx)
noncomputable def u1 (k n1 : Nat) : T1 := fun (x1 : Int) (x7 : List (Int)) (x10 : Int) (m5 m9 : List (Int)) => uK (loopL E h k c15 (K31 k) n1) (s1 x1 x7 x10 m5 m9) ()
noncomputable abbrev l1 (k n1 : Nat) : T1 := fun (x1 : Int) (x7 : List (Int)) (x10 : Int) (m5 m9 : List (Int)) => cutK (loopL E h k c15 (K31 k) n1) (s1 x1 x7 x10 m5 m9) ()
noncomputable def u0 (k : Nat) : T0 := fun (x0 : List (List (Int))) (x1 : Int) => runOf (S := cx) E h k Try.f4 [.val (.slice 25 (.agg (.arr 4 (.int .u64)))), .val (.int .i64)] .bool .ro (x0, x1, ())
def t4 (f1 : T1) : T4 := fun (x1 : Int) (x7 : List (Int)) (x10 : Int) (m5 m9 : List (Int)) => 
  (f1 x1 x7 (w64 (x10 + (1 : Int))) m5 m9)
theorem e4 (k n1 : Nat) : u4 k n1 = t4 (l1 k n1) := by kernel_rfl
theorem g4 (k n1 : Nat) : l4 k n1 = u4 k n1 := funext fun _ => funext fun _ => funext fun _ => funext fun _ => funext fun _ => cut_u _ _ _
theorem d4 {x1 y1 : T1} (h1 : x1 = y1) : t4 x1 = t4 y1 := by subst h1; rfl
def p4 (k : Nat) (a1 : T1) : T4 := t4 a1
theorem o4 (k n1 : Nat) (a1 : T1) (h1 : l1 k n1 = a1) : l4 k n1 = p4 k a1 := (Eq.trans (b := u4 k n1) (g4 k n1) (Eq.trans (b := t4 (l1 k n1)) (e4 k n1) (Eq.trans (b := t4 a1) (d4 h1) (by kernel_rfl))))
def t2 (f4 : T4) : T2 := fun (x1 : Int) (x7 : List (Int)) (x10 : Int) (x57 : Bool) (m5 m9 : List (Int)) => 
  (iteB x57 (some (false, ())) (f4 x1 x7 x10 m5 m9))
theorem e2 (k n1 : Nat) : u2 k n1 = t2 (l4 k n1) := by kernel_rfl
theorem g2 (k n1 : Nat) : l2 k n1 = u2 k n1 := funext fun _ => funext fun _ => funext fun _ => funext fun _ => funext fun _ => funext fun _ => cut_u _ _ _
theorem d2 {x4 y4 : T4} (h4 : x4 = y4) : t2 x4 = t2 y4 := by subst h4; rfl
def p2 (k : Nat) (a1 : T1) : T2 := t2 (p4 k a1)
theorem o2 (k n1 : Nat) (a1 : T1) (h1 : l1 k n1 = a1) : l2 k n1 = p2 k a1 := (Eq.trans (b := u2 k n1) (g2 k n1) (Eq.trans (b := t2 (l4 k n1)) (e2 k n1) (Eq.trans (b := t2 (p4 k a1)) (d2 (o4 k n1 a1 h1)) (by kernel_rfl))))
def t3 : T3 := 
  (some (true, ()))
theorem e3 (k : Nat) : u3 k = t3 := by kernel_rfl
theorem g3 (k : Nat) : l3 k = u3 k := cut_u _ _ _
def p3 (k : Nat) : T3 := t3
theorem o3 (k : Nat) : l3 k = p3 k := (Eq.trans (b := u3 k) (g3 k) (Eq.trans (b := t3) (e3 k) (by kernel_rfl)))
def t1 (f2 : T2) (f3 : T3) : T1 := fun (x1 : Int) (x7 : List (Int)) (x10 : Int) (m5 m9 : List (Int)) => 
  (iteB (decide (x10 < (256 : Int))) (withinR x10 256 fun q5 => (withinR x10 (List.length x7) fun q6 => (iteB (!decide ((w64 ((List.getD m5 q5 (0 : Int)))) = (List.getD x7 q6 (0 : Int)))) (f2 x1 x7 x10 true m5 m9) (withinR x10 (List.length x7) fun q7 => (bindR (s_ref05_Has (m9, ((w8 (x10)), ()))) fun r8 => (f2 x1 x7 x10 (!(r8.1 == (decide ((List.getD x7 q7 (0 : Int)) = x1)))) m5 m9)))))) f3)
theorem e1 (k n1 : Nat) : u1 k (n1 + 1) = t1 (l2 k n1) (l3 k) := by kernel_rfl
theorem g1 (k n1 : Nat) : l1 k (n1 + 1) = u1 k (n1 + 1) := funext fun _ => funext fun _ => funext fun _ => funext fun _ => funext fun _ => cut_u _ _ _
theorem d1 {x2 y2 : T2} {x3 y3 : T3} (h2 : x2 = y2) (h3 : x3 = y3) : t1 x2 x3 = t1 y2 y3 := by subst h2; subst h3; rfl
def p1 (k : Nat) : Nat → T1
  | 0 => fun _ _ _ _ _ => none
  | n1 + 1 => t1 (p2 k (p1 k n1)) (p3 k)
theorem o1 (k : Nat) : ∀ n1, l1 k n1 = p1 k n1 := by
  intro n1
  induction n1 with
  | zero => kernel_rfl
  | succ n1 ih => exact (Eq.trans (b := u1 k (n1 + 1)) (g1 k n1) (Eq.trans (b := t1 (l2 k n1) (l3 k)) (e1 k n1) (Eq.trans (b := t1 (p2 k (p1 k n1)) (p3 k)) (d1 (o2 k n1 (p1 k n1) ih) (o3 k)) (by kernel_rfl))))
def t0 (f1 : T1) : T0 := fun (x0 : List (List (Int))) (x1 : Int) => 
  (bindR (s_law05_alive ()) fun r1 => (iteB (notB r1.1) (some (false, ())) (iteB (decide ((12 : Int) < ((List.length x0 : Nat) : Int))) (some (true, ())) (bindR (s_bytesets_Classes (x0, ())) fun r2 => (bindR (s_ref05_Classes (x0, ())) fun r3 => (iteB (!decide (r2.1.2 = r3.1.2)) (some (false, ())) (bindR (s_bytesets_Class (x0, (x1, ()))) fun r4 => (f1 x1 r3.1.1 (0 : Int) r2.1.1 r4.1))))))))
theorem e0 (k : Nat) : u0 k = t0 (l1 k k) := by kernel_rfl
theorem d0 {x1 y1 : T1} (h1 : x1 = y1) : t0 x1 = t0 y1 := by subst h1; rfl
def p0 (k : Nat) : T0 := t0 (p1 k k)
theorem o0 (k : Nat) : u0 k = p0 k := (Eq.trans (b := t0 (l1 k k)) (e0 k) (Eq.trans (b := t0 (p1 k k)) (d0 (o1 k k)) (by kernel_rfl)))
end law05_BytesetsClasses
def s_law05_BytesetsClasses (a : (List (List (Int))) × ((Int) × (Unit))) : Option ((Bool) × (Unit)) := law05_BytesetsClasses.p0 (fuel) a.1 a.2.1
noncomputable def F_law05_BytesetsClasses : FSpec cx.toNm := { ps := [.val (.slice 25 (.agg (.arr 4 (.int .u64)))), .val (.int .i64)], nres := 1, rt := .bool, rm := .ro, f := s_law05_BytesetsClasses }
theorem w_law05_BytesetsClasses (a : (List (List (Int))) × ((Int) × (Unit))) : runOf (S := cx) law05_BytesetsClasses.E law05_BytesetsClasses.h (fuel) Try.f4 F_law05_BytesetsClasses.ps F_law05_BytesetsClasses.rt F_law05_BytesetsClasses.rm a = F_law05_BytesetsClasses.f a := Eq.trans (b := law05_BytesetsClasses.u0 (fuel) a.1 a.2.1) (by kernel_rfl) (Eq.trans (b := law05_BytesetsClasses.p0 (fuel) a.1 a.2.1) (congrFun (congrFun (law05_BytesetsClasses.o0 (fuel)) a.1) a.2.1) (by kernel_rfl))
theorem ok_law05_BytesetsClasses : FnOk Try.prog F_law05_BytesetsClasses 4 := fn_of (hn := law05_BytesetsClasses.h) (E := law05_BytesetsClasses.E) cxOk (tysT _) (fs_cons ok_law05_alive (fs_cons ok_ref05_Has (fs_cons ok_bytesets_Classes (fs_cons ok_ref05_Classes (fs_cons ok_bytesets_Class fs_nil))))) follows Try.func4 (by kernel_rfl) (fun a r h => ⟨fuel, Eq.trans (w_law05_BytesetsClasses a) h⟩)
namespace law05_BytesetsParts
noncomputable def E : Env cx := { tys := tys, fs := fsOf [(6, F_law05_alive), (8, F_bytesets_Or), (9, F_bytesets_And), (12, F_bytesets_Classes), (14, F_bytesets_Class), (15, F_ref05_Alike)] }
abbrev R := Option ((Bool) × (Unit))
abbrev C := Exit → ST cx → R
noncomputable def b : Code := bodyC Try.f5
noncomputable def h : Hint := { vs := [0, 1, 2, 6, 7, 8, 9, 10, 11, 12], nil := [], cuts := [(7, ([0, 8, 42], []), ([0, 8], [])), (8, ([0, 8], []), ([0, 8], [])), (9, ([0, 8, 9], []), ([], [])), (10, ([0, 8, 9], []), ([0, 8, 9], [])), (13, ([0, 8, 9, 10, 11], [10]), ([0, 8, 9, 10], [10])), (14, ([0, 8, 9, 10, 11], [10]), ([0, 8, 9, 10, 11], [10])), (18, ([0, 8, 9, 10], [10]), ([0, 8, 9], [])), (19, ([0, 8, 9, 78], []), ([0, 8, 9], [])), (20, ([], []), ([], []))], ret := ([6], [7, 10, 12]), ords := [(16, [0, 1, 2, 3, 4, 6, 5, 7])] }
noncomputable def K0 : C := fin (S := cx) E Try.f5.results.toList .bool .ro [] []
noncomputable def c0 : Code := subC b [1]
noncomputable def K1 (k : Nat) : C := outD h c0 K0
noncomputable def K2 (k : Nat) : C := seqC E h k c0 K0
noncomputable def c1 : Code := subC b [1, 1]
noncomputable def K3 (k : Nat) : C := outD h c1 (K1 k)
noncomputable def K4 (k : Nat) : C := seqC E h k c1 (K1 k)
noncomputable def c2 : Code := subC b [1, 0, 1]
noncomputable def K5 (k : Nat) : C := outD h c2 (K4 k)
noncomputable def K6 (k : Nat) : C := seqC E h k c2 (K4 k)
noncomputable def c3 : Code := subC b [1, 0, 1, 0, 1]
noncomputable def K7 (k : Nat) : C := outD h c3 (K5 k)
noncomputable def K8 (k : Nat) : C := seqC E h k c3 (K5 k)
noncomputable def c4 : Code := subC b [1, 1, 1]
noncomputable def K9 (k : Nat) : C := outD h c4 (K3 k)
noncomputable def K10 (k : Nat) : C := seqC E h k c4 (K3 k)
noncomputable def c5 : Code := subC b [1, 1, 0, 1]
noncomputable def K11 (k : Nat) : C := outD h c5 (K10 k)
noncomputable def K12 (k : Nat) : C := seqC E h k c5 (K10 k)
noncomputable def c6 : Code := subC b [1, 1, 0, 1, 0, 1]
noncomputable def K13 (k : Nat) : C := outD h c6 (K11 k)
noncomputable def K14 (k : Nat) : C := seqC E h k c6 (K11 k)
noncomputable def c7 : Code := subC b [1, 1, 1, 1]
noncomputable def K15 (k : Nat) : C := outD h c7 (K9 k)
noncomputable def K16 (k : Nat) : C := seqC E h k c7 (K9 k)
noncomputable def c8 : Code := subC b [1, 1, 1, 1, 1]
noncomputable def K17 (k : Nat) : C := outD h c8 (K15 k)
noncomputable def K18 (k : Nat) : C := seqC E h k c8 (K15 k)
noncomputable def c9 : Code := subC b [1, 1, 1, 1, 0, 1]
noncomputable def K19 (k : Nat) : C := outD h c9 (K18 k)
noncomputable def K20 (k : Nat) : C := seqC E h k c9 (K18 k)
noncomputable def c10 : Code := subC b [1, 1, 1, 1, 0, 1, 0, 1]
noncomputable def K21 (k : Nat) : C := outD h c10 (K19 k)
noncomputable def K22 (k : Nat) : C := seqC E h k c10 (K19 k)
noncomputable def c11 : Code := subC b [1, 1, 1, 1, 1, 1]
noncomputable def K23 (k : Nat) : C := outD h c11 (K17 k)
noncomputable def K24 (k : Nat) : C := seqC E h k c11 (K17 k)
noncomputable def c12 : Code := subC b [1, 1, 1, 1, 1, 0, 1]
noncomputable def K25 (k : Nat) : C := outD h c12 (K24 k)
noncomputable def K26 (k : Nat) : C := seqC E h k c12 (K24 k)
noncomputable def K27 (k : Nat) : C := blockK 0 (K25 k)
noncomputable def c13 : Code := subC b [1, 1, 1, 1, 1, 0, 1, 0, 0]
noncomputable def K28 (k n3 : Nat) : C := loopD E h k c13 (K27 k) n3
noncomputable def c14 : Code := subC b [1, 1, 1, 1, 1, 0, 1, 0, 0, 1]
noncomputable def K29 (k n3 : Nat) : C := outD h c14 (K28 k n3)
noncomputable def K30 (k n3 : Nat) : C := seqC E h k c14 (K28 k n3)
noncomputable def c15 : Code := subC b [1, 1, 1, 1, 1, 0, 1, 0, 0, 0, 1]
noncomputable def K31 (k n3 : Nat) : C := outD h c15 (K30 k n3)
noncomputable def K32 (k n3 : Nat) : C := seqC E h k c15 (K30 k n3)
noncomputable def c16 : Code := subC b [1, 1, 1, 1, 1, 0, 1, 0, 0, 1, 1]
noncomputable def K33 (k n3 : Nat) : C := outD h c16 (K29 k n3)
noncomputable def K34 (k n3 : Nat) : C := seqC E h k c16 (K29 k n3)
noncomputable def K35 (k n3 : Nat) : C := blockK 1 (K34 k n3)
noncomputable def c17 : Code := subC b [1, 1, 1, 1, 1, 0, 1, 0, 0, 1, 0, 0, 1]
noncomputable def K36 (k n3 : Nat) : C := outD h c17 (K35 k n3)
noncomputable def K37 (k n3 : Nat) : C := seqC E h k c17 (K35 k n3)
noncomputable def c18 : Code := subC b [1, 1, 1, 1, 1, 0, 1, 0, 0, 1, 0, 0, 1, 1]
noncomputable def K38 (k n3 : Nat) : C := outD h c18 (K36 k n3)
noncomputable def K39 (k n3 : Nat) : C := seqC E h k c18 (K36 k n3)
noncomputable def c19 : Code := subC b [1, 1, 1, 1, 1, 0, 1, 0, 0, 1, 0, 0, 1, 0, 1]
noncomputable def K40 (k n3 : Nat) : C := outD h c19 (K39 k n3)
noncomputable def K41 (k n3 : Nat) : C := seqC E h k c19 (K39 k n3)
noncomputable def K42 (k n3 : Nat) : C := blockK 2 (K40 k n3)
noncomputable def c20 : Code := subC b [1, 1, 1, 1, 1, 0, 1, 0, 0, 1, 0, 0, 1, 0, 1, 0, 0]
noncomputable def K43 (k n3 n4 : Nat) : C := loopD E h k c20 (K42 k n3) n4
noncomputable def c21 : Code := subC b [1, 1, 1, 1, 1, 0, 1, 0, 0, 1, 0, 0, 1, 0, 1, 0, 0, 1]
noncomputable def K44 (k n3 n4 : Nat) : C := outD h c21 (K43 k n3 n4)
noncomputable def K45 (k n3 n4 : Nat) : C := seqC E h k c21 (K43 k n3 n4)
noncomputable def c22 : Code := subC b [1, 1, 1, 1, 1, 0, 1, 0, 0, 1, 0, 0, 1, 0, 1, 0, 0, 0, 1]
noncomputable def K46 (k n3 n4 : Nat) : C := outD h c22 (K45 k n3 n4)
noncomputable def K47 (k n3 n4 : Nat) : C := seqC E h k c22 (K45 k n3 n4)
noncomputable def c23 : Code := subC b [1, 1, 1, 1, 1, 0, 1, 0, 0, 1, 0, 0, 1, 0, 1, 0, 0, 1, 1]
noncomputable def K48 (k n3 n4 : Nat) : C := outD h c23 (K44 k n3 n4)
noncomputable def K49 (k n3 n4 : Nat) : C := seqC E h k c23 (K44 k n3 n4)
noncomputable def K50 (k n3 n4 : Nat) : C := blockK 3 (K49 k n3 n4)
noncomputable def c24 : Code := subC b [1, 1, 1, 1, 1, 0, 1, 0, 0, 1, 0, 0, 1, 0, 1, 0, 0, 1, 0, 0, 1]
noncomputable def K51 (k n3 n4 : Nat) : C := outD h c24 (K50 k n3 n4)
noncomputable def K52 (k n3 n4 : Nat) : C := seqC E h k c24 (K50 k n3 n4)
noncomputable def c25 : Code := subC b [1, 1, 1, 1, 1, 0, 1, 0, 0, 1, 0, 0, 1, 0, 1, 0, 0, 1, 0, 0, 1, 1]
noncomputable def K53 (k n3 n4 : Nat) : C := outD h c25 (K51 k n3 n4)
noncomputable def K54 (k n3 n4 : Nat) : C := seqC E h k c25 (K51 k n3 n4)
noncomputable def c26 : Code := subC b [1, 1, 1, 1, 1, 0, 1, 0, 0, 1, 0, 0, 1, 1, 1]
noncomputable def K55 (k n3 : Nat) : C := outD h c26 (K38 k n3)
noncomputable def K56 (k n3 : Nat) : C := seqC E h k c26 (K38 k n3)
noncomputable def c27 : Code := subC b [1, 1, 1, 1, 1, 0, 1, 0, 0, 1, 0, 0, 1, 1, 1, 0, 1]
noncomputable def K57 (k n3 : Nat) : C := outD h c27 (K55 k n3)
noncomputable def K58 (k n3 : Nat) : C := seqC E h k c27 (K55 k n3)
noncomputable def c28 : Code := subC b [1, 1, 1, 1, 1, 1, 1]
noncomputable def K59 (k : Nat) : C := outD h c28 (K23 k)
noncomputable def K60 (k : Nat) : C := seqC E h k c28 (K23 k)
abbrev T6 := (List (List (Int))) → Int → Int → Int → (List (Int)) → R
abbrev T9 := (List (List (Int))) → Int → Int → R
abbrev T8 := (List (List (Int))) → Int → Int → Bool → R
abbrev T7 := (List (List (Int))) → Int → Int → (List (Int)) → R
abbrev T4 := (List (List (Int))) → Int → Int → Int → (List (Int)) → R
abbrev T5 := R
abbrev T3 := (List (List (Int))) → Int → Int → R
abbrev T2 := (List (List (Int))) → Int → R
abbrev T1 := (List (List (Int))) → Int → Bool → R
abbrev T0 := (List (List (Int))) → Int → Int → R
abbrev s6 : (List (List (Int))) → Int → Int → Int → (List (Int)) → ST cx := fun (x0 : List (List (Int))) (x8 x9 x11 : Int) (m10 : List (Int)) => ({ vars := [(0, .v (.slice 25 (.agg (.arr 4 (.int .u64)))) .ro x0), (8, .v (.int .i64) .ro x8), (9, .v (.int .i64) .ro x9), (10, .addr (.mem 10) []), (11, .v (.int .i64) .ro x11)], scr := [], mems := [(10, ⟨(.agg (.arr 4 (.int .u64))), .ro, m10⟩)] } : ST cx)
noncomputable def u6 (k n3 n4 : Nat) : T6 := fun (x0 : List (List (Int))) (x8 x9 x11 : Int) (m10 : List (Int)) => uK (run E h k c23) (s6 x0 x8 x9 x11 m10) (K48 k n3 n4)
noncomputable abbrev l6 (k n3 n4 : Nat) : T6 := fun (x0 : List (List (Int))) (x8 x9 x11 : Int) (m10 : List (Int)) => cutK (run E h k c23) (s6 x0 x8 x9 x11 m10) (K48 k n3 n4)
abbrev s9 : (List (List (Int))) → Int → Int → ST cx := fun (x0 : List (List (Int))) (x8 x9 : Int) => ({ vars := [(0, .v (.slice 25 (.agg (.arr 4 (.int .u64)))) .ro x0), (8, .v (.int .i64) .ro x8), (9, .v (.int .i64) .ro x9)], scr := [], mems := [] } : ST cx)
noncomputable def u9 (k n3 : Nat) : T9 := fun (x0 : List (List (Int))) (x8 x9 : Int) => uK (run E h k c16) (s9 x0 x8 x9) (K33 k n3)
noncomputable abbrev l9 (k n3 : Nat) : T9 := fun (x0 : List (List (Int))) (x8 x9 : Int) => cutK (run E h k c16) (s9 x0 x8 x9) (K33 k n3)
abbrev s8 : (List (List (Int))) → Int → Int → Bool → ST cx := fun (x0 : List (List (Int))) (x8 x9 : Int) (x78 : Bool) => ({ vars := [(0, .v (.slice 25 (.agg (.arr 4 (.int .u64)))) .ro x0), (8, .v (.int .i64) .ro x8), (9, .v (.int .i64) .ro x9), (78, .v .bool .ro x78)], scr := [], mems := [] } : ST cx)
noncomputable def u8 (k n3 : Nat) : T8 := fun (x0 : List (List (Int))) (x8 x9 : Int) (x78 : Bool) => uK (run E h k c26) (s8 x0 x8 x9 x78) (K55 k n3)
noncomputable abbrev l8 (k n3 : Nat) : T8 := fun (x0 : List (List (Int))) (x8 x9 : Int) (x78 : Bool) => cutK (run E h k c26) (s8 x0 x8 x9 x78) (K55 k n3)
abbrev s7 : (List (List (Int))) → Int → Int → (List (Int)) → ST cx := fun (x0 : List (List (Int))) (x8 x9 : Int) (m10 : List (Int)) => ({ vars := [(0, .v (.slice 25 (.agg (.arr 4 (.int .u64)))) .ro x0), (8, .v (.int .i64) .ro x8), (9, .v (.int .i64) .ro x9), (10, .addr (.mem 10) [])], scr := [], mems := [(10, ⟨(.agg (.arr 4 (.int .u64))), .ro, m10⟩)] } : ST cx)
noncomputable def u7 (k n3 : Nat) : T7 := fun (x0 : List (List (Int))) (x8 x9 : Int) (m10 : List (Int)) => uK (run E h k c18) (s7 x0 x8 x9 m10) (K38 k n3)
noncomputable abbrev l7 (k n3 : Nat) : T7 := fun (x0 : List (List (Int))) (x8 x9 : Int) (m10 : List (Int)) => cutK (run E h k c18) (s7 x0 x8 x9 m10) (K38 k n3)
abbrev s4 : (List (List (Int))) → Int → Int → Int → (List (Int)) → ST cx := fun (x0 : List (List (Int))) (x8 x9 x11 : Int) (m10 : List (Int)) => ({ vars := [(0, .v (.slice 25 (.agg (.arr 4 (.int .u64)))) .ro x0), (8, .v (.int .i64) .ro x8), (9, .v (.int .i64) .ro x9), (10, .addr (.mem 10) []), (11, .v (.int .i64) .ro x11)], scr := [], mems := [(10, ⟨(.agg (.arr 4 (.int .u64))), .ro, m10⟩)] } : ST cx)
noncomputable def u4 (k n3 n4 : Nat) : T4 := fun (x0 : List (List (Int))) (x8 x9 x11 : Int) (m10 : List (Int)) => uK (loopL E h k c20 (K42 k n3) n4) (s4 x0 x8 x9 x11 m10) ()
noncomputable abbrev l4 (k n3 n4 : Nat) : T4 := fun (x0 : List (List (Int))) (x8 x9 x11 : Int) (m10 : List (Int)) => cutK (loopL E h k c20 (K42 k n3) n4) (s4 x0 x8 x9 x11 m10) ()
abbrev s5 : ST cx := ({ vars := [], scr := [], mems := [] } : ST cx)
noncomputable def u5 (k : Nat) : T5 := uK (run E h k c11) s5 (K23 k)
noncomputable abbrev l5 (k : Nat) : T5 := cutK (run E h k c11) s5 (K23 k)
abbrev s3 : (List (List (Int))) → Int → Int → ST cx := fun (x0 : List (List (Int))) (x8 x9 : Int) => ({ vars := [(0, .v (.slice 25 (.agg (.arr 4 (.int .u64)))) .ro x0), (8, .v (.int .i64) .ro x8), (9, .v (.int .i64) .ro x9)], scr := [], mems := [] } : ST cx)
noncomputable def u3 (k n3 : Nat) : T3 := fun (x0 : List (List (Int))) (x8 x9 : Int) => uK (loopL E h k c13 (K27 k) n3) (s3 x0 x8 x9) ()
noncomputable abbrev l3 (k n3 : Nat) : T3 := fun (x0 : List (List (Int))) (x8 x9 : Int) => cutK (loopL E h k c13 (K27 k) n3) (s3 x0 x8 x9) ()
abbrev s2 : (List (List (Int))) → Int → ST cx := fun (x0 : List (List (Int))) (x8 : Int) => ({ vars := [(0, .v (.slice 25 (.agg (.arr 4 (.int .u64)))) .ro x0), (8, .v (.int .i64) .ro x8)], scr := [], mems := [] } : ST cx)
noncomputable def u2 (k : Nat) : T2 := fun (x0 : List (List (Int))) (x8 : Int) => uK (run E h k c8) (s2 x0 x8) (K17 k)
noncomputable abbrev l2 (k : Nat) : T2 := fun (x0 : List (List (Int))) (x8 : Int) => cutK (run E h k c8) (s2 x0 x8) (K17 k)
abbrev s1 : (List (List (Int))) → Int → Bool → ST cx := fun (x0 : List (List (Int))) (x8 : Int) (x42 : Bool) => ({ vars := [(0, .v (.slice 25 (.agg (.arr 4 (.int .u64)))) .ro x0), (8, .v (.int .i64) .ro x8), (42, .v .bool .ro x42)], scr := [], mems := [] } : ST cx)
noncomputable def u1 (k : Nat) : T1 := fun (x0 : List (List (Int))) (x8 : Int) (x42 : Bool) => uK (run E h k c9) (s1 x0 x8 x42) (K19 k)
noncomputable abbrev l1 (k : Nat) : T1 := fun (x0 : List (List (Int))) (x8 : Int) (x42 : Bool) => cutK (run E h k c9) (s1 x0 x8 x42) (K19 k)
noncomputable def u0 (k : Nat) : T0 := fun (x0 : List (List (Int))) (x1 x2 : Int) => runOf (S := cx) E h k Try.f5 [.val (.slice 25 (.agg (.arr 4 (.int .u64)))), .val (.int .u8), .val (.int .u8)] .bool .ro (x0, x1, x2, ())
def t6 (f4 : T4) : T6 := fun (x0 : List (List (Int))) (x8 x9 x11 : Int) (m10 : List (Int)) => 
  (f4 x0 x8 x9 (w64 (x11 + (1 : Int))) m10)
theorem e6 (k n3 n4 : Nat) : u6 k n3 n4 = t6 (l4 k n3 n4) := by kernel_rfl
theorem g6 (k n3 n4 : Nat) : l6 k n3 n4 = u6 k n3 n4 := funext fun _ => funext fun _ => funext fun _ => funext fun _ => funext fun _ => cut_u _ _ _
theorem d6 {x4 y4 : T4} (h4 : x4 = y4) : t6 x4 = t6 y4 := by subst h4; rfl
def p6 (k : Nat) (a3 : T3) (a4 : T4) : T6 := t6 a4
theorem o6 (k n3 n4 : Nat) (a3 : T3) (a4 : T4) (h3 : l3 k n3 = a3) (h4 : l4 k n3 n4 = a4) : l6 k n3 n4 = p6 k a3 a4 := (Eq.trans (b := u6 k n3 n4) (g6 k n3 n4) (Eq.trans (b := t6 (l4 k n3 n4)) (e6 k n3 n4) (Eq.trans (b := t6 a4) (d6 h4) (by kernel_rfl))))
def t9 (f3 : T3) : T9 := fun (x0 : List (List (Int))) (x8 x9 : Int) => 
  (f3 x0 x8 (w64 (x9 + (1 : Int))))
theorem e9 (k n3 : Nat) : u9 k n3 = t9 (l3 k n3) := by kernel_rfl
theorem g9 (k n3 : Nat) : l9 k n3 = u9 k n3 := funext fun _ => funext fun _ => funext fun _ => cut_u _ _ _
theorem d9 {x3 y3 : T3} (h3 : x3 = y3) : t9 x3 = t9 y3 := by subst h3; rfl
def p9 (k : Nat) (a3 : T3) : T9 := t9 a3
theorem o9 (k n3 : Nat) (a3 : T3) (h3 : l3 k n3 = a3) : l9 k n3 = p9 k a3 := (Eq.trans (b := u9 k n3) (g9 k n3) (Eq.trans (b := t9 (l3 k n3)) (e9 k n3) (Eq.trans (b := t9 a3) (d9 h3) (by kernel_rfl))))
def t8 (f9 : T9) : T8 := fun (x0 : List (List (Int))) (x8 x9 : Int) (x78 : Bool) => 
  (iteB x78 (some (false, ())) (f9 x0 x8 x9))
theorem e8 (k n3 : Nat) : u8 k n3 = t8 (l9 k n3) := by kernel_rfl
theorem g8 (k n3 : Nat) : l8 k n3 = u8 k n3 := funext fun _ => funext fun _ => funext fun _ => funext fun _ => cut_u _ _ _
theorem d8 {x9 y9 : T9} (h9 : x9 = y9) : t8 x9 = t8 y9 := by subst h9; rfl
def p8 (k : Nat) (a3 : T3) : T8 := t8 (p9 k a3)
theorem o8 (k n3 : Nat) (a3 : T3) (h3 : l3 k n3 = a3) : l8 k n3 = p8 k a3 := (Eq.trans (b := u8 k n3) (g8 k n3) (Eq.trans (b := t8 (l9 k n3)) (e8 k n3) (Eq.trans (b := t8 (p9 k a3)) (d8 (o9 k n3 a3 h3)) (by kernel_rfl))))
def t7 (f8 : T8) : T7 := fun (x0 : List (List (Int))) (x8 x9 : Int) (m10 : List (Int)) => 
  (iteB (decide (x9 < (3 : Int))) (withinR x9 (List.length x0) fun q11 => (f8 x0 x8 x9 (!(decide (m10 = (List.getD x0 q11 (List.replicate 4 (0 : Int)))))))) (f8 x0 x8 x9 false))
theorem e7 (k n3 : Nat) : u7 k n3 = t7 (l8 k n3) := by kernel_rfl
theorem g7 (k n3 : Nat) : l7 k n3 = u7 k n3 := funext fun _ => funext fun _ => funext fun _ => funext fun _ => cut_u _ _ _
theorem d7 {x8 y8 : T8} (h8 : x8 = y8) : t7 x8 = t7 y8 := by subst h8; rfl
def p7 (k : Nat) (a3 : T3) : T7 := t7 (p8 k a3)
theorem o7 (k n3 : Nat) (a3 : T3) (h3 : l3 k n3 = a3) : l7 k n3 = p7 k a3 := (Eq.trans (b := u7 k n3) (g7 k n3) (Eq.trans (b := t7 (l8 k n3)) (e7 k n3) (Eq.trans (b := t7 (p8 k a3)) (d7 (o8 k n3 a3 h3)) (by kernel_rfl))))
def t4 (f6 : T6) (f7 : T7) : T4 := fun (x0 : List (List (Int))) (x8 x9 x11 : Int) (m10 : List (Int)) => 
  (iteB (decide (x11 < x8)) (bindR (s_bytesets_Class (x0, (x11, ()))) fun r7 => (withinR x9 (List.length x0) fun q8 => (bindR (s_bytesets_And (r7.1, ((List.getD x0 q8 (List.replicate 4 (0 : Int))), ()))) fun r9 => (iteB (!(decide (r9.1 = (List.replicate 4 (0 : Int))))) (bindR (s_bytesets_Or (([m10, r7.1] : List (List (Int))), ())) fun r10 => (f6 x0 x8 x9 x11 r10.1)) (f6 x0 x8 x9 x11 m10))))) (f7 x0 x8 x9 m10))
theorem e4 (k n3 n4 : Nat) : u4 k n3 (n4 + 1) = t4 (l6 k n3 n4) (l7 k n3) := by kernel_rfl
theorem g4 (k n3 n4 : Nat) : l4 k n3 (n4 + 1) = u4 k n3 (n4 + 1) := funext fun _ => funext fun _ => funext fun _ => funext fun _ => funext fun _ => cut_u _ _ _
theorem d4 {x6 y6 : T6} {x7 y7 : T7} (h6 : x6 = y6) (h7 : x7 = y7) : t4 x6 x7 = t4 y6 y7 := by subst h6; subst h7; rfl
def p4 (k : Nat) (a3 : T3) : Nat → T4
  | 0 => fun _ _ _ _ _ => none
  | n4 + 1 => t4 (p6 k a3 (p4 k a3 n4)) (p7 k a3)
theorem o4 (k n3 : Nat) (a3 : T3) (h3 : l3 k n3 = a3) : ∀ n4, l4 k n3 n4 = p4 k a3 n4 := by
  intro n4
  induction n4 with
  | zero => kernel_rfl
  | succ n4 ih => exact (Eq.trans (b := u4 k n3 (n4 + 1)) (g4 k n3 n4) (Eq.trans (b := t4 (l6 k n3 n4) (l7 k n3)) (e4 k n3 n4) (Eq.trans (b := t4 (p6 k a3 (p4 k a3 n4)) (p7 k a3)) (d4 (o6 k n3 n4 a3 (p4 k a3 n4) h3 ih) (o7 k n3 a3 h3)) (by kernel_rfl))))
def t5 : T5 := 
  (some (true, ()))
theorem e5 (k : Nat) : u5 k = t5 := by kernel_rfl
theorem g5 (k : Nat) : l5 k = u5 k := cut_u _ _ _
def p5 (k : Nat) : T5 := t5
theorem o5 (k : Nat) : l5 k = p5 k := (Eq.trans (b := u5 k) (g5 k) (Eq.trans (b := t5) (e5 k) (by kernel_rfl)))
def t3 (f4 : T4) (f5 : T5) : T3 := fun (x0 : List (List (Int))) (x8 x9 : Int) => 
  (iteB (decide (x9 < ((List.length x0 : Nat) : Int))) (f4 x0 x8 x9 (0 : Int) (List.replicate 4 (0 : Int))) f5)
theorem e3 (k n3 : Nat) : u3 k (n3 + 1) = t3 (l4 k n3 k) (l5 k) := by kernel_rfl
theorem g3 (k n3 : Nat) : l3 k (n3 + 1) = u3 k (n3 + 1) := funext fun _ => funext fun _ => funext fun _ => cut_u _ _ _
theorem d3 {x4 y4 : T4} {x5 y5 : T5} (h4 : x4 = y4) (h5 : x5 = y5) : t3 x4 x5 = t3 y4 y5 := by subst h4; subst h5; rfl
def p3 (k : Nat) : Nat → T3
  | 0 => fun _ _ _ => none
  | n3 + 1 => t3 (p4 k (p3 k n3) k) (p5 k)
theorem o3 (k : Nat) : ∀ n3, l3 k n3 = p3 k n3 := by
  intro n3
  induction n3 with
  | zero => kernel_rfl
  | succ n3 ih => exact (Eq.trans (b := u3 k (n3 + 1)) (g3 k n3) (Eq.trans (b := t3 (l4 k n3 k) (l5 k)) (e3 k n3) (Eq.trans (b := t3 (p4 k (p3 k n3) k) (p5 k)) (d3 (o4 k n3 (p3 k n3) ih k) (o5 k)) (by kernel_rfl))))
def t2 (f3 : T3) : T2 := fun (x0 : List (List (Int))) (x8 : Int) => 
  (f3 x0 x8 (0 : Int))
theorem e2 (k : Nat) : u2 k = t2 (l3 k k) := by kernel_rfl
theorem g2 (k : Nat) : l2 k = u2 k := funext fun _ => funext fun _ => cut_u _ _ _
theorem d2 {x3 y3 : T3} (h3 : x3 = y3) : t2 x3 = t2 y3 := by subst h3; rfl
def p2 (k : Nat) : T2 := t2 (p3 k k)
theorem o2 (k : Nat) : l2 k = p2 k := (Eq.trans (b := u2 k) (g2 k) (Eq.trans (b := t2 (l3 k k)) (e2 k) (Eq.trans (b := t2 (p3 k k)) (d2 (o3 k k)) (by kernel_rfl))))
def t1 (f2 : T2) : T1 := fun (x0 : List (List (Int))) (x8 : Int) (x42 : Bool) => 
  (iteB x42 (some (false, ())) (f2 x0 x8))
theorem e1 (k : Nat) : u1 k = t1 (l2 k) := by kernel_rfl
theorem g1 (k : Nat) : l1 k = u1 k := funext fun _ => funext fun _ => funext fun _ => cut_u _ _ _
theorem d1 {x2 y2 : T2} (h2 : x2 = y2) : t1 x2 = t1 y2 := by subst h2; rfl
def p1 (k : Nat) : T1 := t1 (p2 k)
theorem o1 (k : Nat) : l1 k = p1 k := (Eq.trans (b := u1 k) (g1 k) (Eq.trans (b := t1 (l2 k)) (e1 k) (Eq.trans (b := t1 (p2 k)) (d1 (o2 k)) (by kernel_rfl))))
def t0 (f1 : T1) : T0 := fun (x0 : List (List (Int))) (x1 x2 : Int) => 
  (bindR (s_law05_alive ()) fun r1 => (iteB (notB r1.1) (some (false, ())) (iteB (decide ((30 : Int) < ((List.length x0 : Nat) : Int))) (some (true, ())) (bindR (s_bytesets_Classes (x0, ())) fun r2 => (withinR x1 256 fun q3 => (withinR x2 256 fun q4 => (bindR (s_ref05_Alike (x0, (x1, (x2, ())))) fun r5 => (iteB (!((decide ((List.getD r2.1.1 q3 (0 : Int)) = (List.getD r2.1.1 q4 (0 : Int)))) == r5.1)) (f1 x0 r2.1.2 true) (withinR x1 256 fun q6 => (f1 x0 r2.1.2 (decide (r2.1.2 ≤ (w64 ((List.getD r2.1.1 q6 (0 : Int))))))))))))))))
theorem e0 (k : Nat) : u0 k = t0 (l1 k) := by kernel_rfl
theorem d0 {x1 y1 : T1} (h1 : x1 = y1) : t0 x1 = t0 y1 := by subst h1; rfl
def p0 (k : Nat) : T0 := t0 (p1 k)
theorem o0 (k : Nat) : u0 k = p0 k := (Eq.trans (b := t0 (l1 k)) (e0 k) (Eq.trans (b := t0 (p1 k)) (d0 (o1 k)) (by kernel_rfl)))
end law05_BytesetsParts
def s_law05_BytesetsParts (a : (List (List (Int))) × ((Int) × ((Int) × (Unit)))) : Option ((Bool) × (Unit)) := law05_BytesetsParts.p0 (fuel) a.1 a.2.1 a.2.2.1
noncomputable def F_law05_BytesetsParts : FSpec cx.toNm := { ps := [.val (.slice 25 (.agg (.arr 4 (.int .u64)))), .val (.int .u8), .val (.int .u8)], nres := 1, rt := .bool, rm := .ro, f := s_law05_BytesetsParts }
theorem w_law05_BytesetsParts (a : (List (List (Int))) × ((Int) × ((Int) × (Unit)))) : runOf (S := cx) law05_BytesetsParts.E law05_BytesetsParts.h (fuel) Try.f5 F_law05_BytesetsParts.ps F_law05_BytesetsParts.rt F_law05_BytesetsParts.rm a = F_law05_BytesetsParts.f a := Eq.trans (b := law05_BytesetsParts.u0 (fuel) a.1 a.2.1 a.2.2.1) (by kernel_rfl) (Eq.trans (b := law05_BytesetsParts.p0 (fuel) a.1 a.2.1 a.2.2.1) (congrFun (congrFun (congrFun (law05_BytesetsParts.o0 (fuel)) a.1) a.2.1) a.2.2.1) (by kernel_rfl))
theorem ok_law05_BytesetsParts : FnOk Try.prog F_law05_BytesetsParts 5 := fn_of (hn := law05_BytesetsParts.h) (E := law05_BytesetsParts.E) cxOk (tysT _) (fs_cons ok_law05_alive (fs_cons ok_bytesets_Or (fs_cons ok_bytesets_And (fs_cons ok_bytesets_Classes (fs_cons ok_bytesets_Class (fs_cons ok_ref05_Alike fs_nil)))))) follows Try.func5 (by kernel_rfl) (fun a r h => ⟨fuel, Eq.trans (w_law05_BytesetsParts a) h⟩)
end
end Go.Proofs.Ytpmlimdilajidaa.Vm.Bs
