/- What the functions of trees compute, as plain functions; that they do. -/
import Derived.Test.YtdnkjfmneppkoaaFns
import Derived.KernelRfl
namespace Go.Proofs.Ytdnkjfmneppkoaa.Vm.Tr
open Go Go.Proofs.Ytdnkjfmneppkoaa.Vm Go.Proofs
set_option linter.unusedVariables false
set_option maxRecDepth 100000
noncomputable section
namespace Q49
def E : Env cx := { tys := tys, fs := fsOf [] }
abbrev R := Option (Bool × Unit)
abbrev C := Exit → ST cx → R
noncomputable def b : Code := bodyC Try.f9
def h : Hint := { vs := [0, 1, 2, 3], nil := [], cuts := [(2, ([1, 43], [1]), ([1], [1])), (3, ([1], [1]), ([1], [1])), (4, ([1, 3], [1]), ([], [])), (8, ([], []), ([], []))], ret := ([2], [1]), ords := [] }
def K0 : C := fin (S := cx) E Try.f9.results.toList .bool .ro [] []
def c0 : Code := subC b [1]
def K1 (k : Nat) : C := outD h c0 K0
def c1 : Code := subC b [1, 1]
def K3 (k : Nat) : C := outD h c1 (K1 k)
def K4 (k : Nat) : C := seqC E h k c1 (K1 k)
def c2 : Code := subC b [1, 0, 1]
def K5 (k : Nat) : C := outD h c2 (K4 k)
def c4 : Code := subC b [1, 1, 1]
def K9 (k : Nat) : C := outD h c4 (K3 k)
def K10 (k : Nat) : C := seqC E h k c4 (K3 k)
def c5 : Code := subC b [1, 1, 0, 1]
def K11 (k : Nat) : C := outD h c5 (K10 k)
def K13 (k : Nat) : C := blockK 0 (K11 k)
def c6 : Code := subC b [1, 1, 0, 1, 0, 0]
abbrev T4 := R
abbrev T3 := Int → D0 → R
abbrev T2 := D0 → R
abbrev T1 := Bool → D0 → R
abbrev T0 := D0 → R
abbrev s4 : ST cx := (⟨[], [], []⟩ : ST cx)
def u4 (k : Nat) : T4 := uK (run E h k c4) s4 (K9 k)
abbrev l4 (k : Nat) : T4 := cutK (run E h k c4) s4 (K9 k)
abbrev s3 := fun x3 m1 => (⟨[(1, .addr (.mem 1) []), (3, .v (.int .i64) .ro x3)], [], [(1, ⟨ty0, .ro, m1⟩)]⟩ : ST cx)
def u3 (k n3 : Nat) : T3 := fun x3 m1 => uK (loopL E h k c6 (K13 k) n3) (s3 x3 m1) ()
abbrev l3 (k n3 : Nat) : T3 := fun x3 m1 => cutK (loopL E h k c6 (K13 k) n3) (s3 x3 m1) ()
abbrev s2 := fun m1 => (⟨[(1, .addr (.mem 1) [])], [], [(1, ⟨ty0, .ro, m1⟩)]⟩ : ST cx)
def u2 (k : Nat) : T2 := fun m1 => uK (run E h k c1) (s2 m1) (K3 k)
abbrev l2 (k : Nat) : T2 := fun m1 => cutK (run E h k c1) (s2 m1) (K3 k)
abbrev s1 := fun x43 m1 => (⟨[(1, .addr (.mem 1) []), (43, .v .bool .ro x43)], [], [(1, ⟨ty0, .ro, m1⟩)]⟩ : ST cx)
def u1 (k : Nat) : T1 := fun x43 m1 => uK (run E h k c2) (s1 x43 m1) (K5 k)
abbrev l1 (k : Nat) : T1 := fun x43 m1 => cutK (run E h k c2) (s1 x43 m1) (K5 k)
def u0 (k : Nat) : T0 := fun x0 => runOf (S := cx) E h k Try.f9 [.val ty0] .bool .ro (x0, ())
def t4 : T4 := 
  (some (false, ()))
theorem e4 (k : Nat) : u4 k = t4 := by kernel_rfl
theorem g4 (k : Nat) : l4 k = u4 k := cut_u _ _ _
def p4 (k : Nat) : T4 := t4
theorem o4 (k : Nat) : l4 k = p4 k := (Eq.trans (b := u4 k) (g4 k) (Eq.trans (b := t4) (e4 k) (by kernel_rfl)))
def t3 (f3 : T3) (f4 : T4) : T3 := fun x3 m1 => (iteB (decide (x3 < ((List.length m1.2.2.2.1 : Nat) : Int))) (wnR x3 (List.length m1.2.2.2.1) fun q1 => (iteB (decide ((20 : Int) < ((List.length (List.getD m1.2.2.2.1 q1 ((0 : Int), ([] : List Int))).2 : Nat) : Int))) (some (true, ())) (f3 (w64 (x3 + (1 : Int))) m1))) f4)
theorem e3 (k n3 : Nat) : u3 k (n3 + 1) = t3 (l3 k n3) (l4 k) := by kernel_rfl
theorem g3 (k n3 : Nat) : l3 k (n3 + 1) = u3 k (n3 + 1) := funext fun _ => funext fun _ => cut_u _ _ _
def p3 (k : Nat) : Nat → T3
  | 0 => fun _ _ => none
  | n3 + 1 => t3 (p3 k n3) (p4 k)
theorem o3 (k : Nat) : ∀ n3, l3 k n3 = p3 k n3 := by
  intro n3
  induction n3 with
  | zero => kernel_rfl
  | succ n3 ih => exact (Eq.trans (b := u3 k (n3 + 1)) (g3 k n3) (Eq.trans (b := t3 (l3 k n3) (l4 k)) (e3 k n3) (Eq.trans (b := t3 (p3 k n3) (p4 k)) (congr (congrArg t3 ih) (o4 k)) (by kernel_rfl))))
def t2 (f3 : T3) : T2 := fun m1 => (f3 (0 : Int) m1)
theorem e2 (k : Nat) : u2 k = t2 (l3 k k) := by kernel_rfl
theorem g2 (k : Nat) : l2 k = u2 k := funext fun _ => cut_u _ _ _
def p2 (k : Nat) : T2 := t2 (p3 k k)
theorem o2 (k : Nat) : l2 k = p2 k := (Eq.trans (b := u2 k) (g2 k) (Eq.trans (b := t2 (l3 k k)) (e2 k) (Eq.trans (b := t2 (p3 k k)) (congrArg t2 (o3 k k)) (by kernel_rfl))))
def t1 (f2 : T2) : T1 := fun x43 m1 => (iteB x43 (some (true, ())) (f2 m1))
theorem e1 (k : Nat) : u1 k = t1 (l2 k) := by kernel_rfl
theorem g1 (k : Nat) : l1 k = u1 k := funext fun _ => funext fun _ => cut_u _ _ _
def p1 (k : Nat) : T1 := t1 (p2 k)
theorem o1 (k : Nat) : l1 k = p1 k := (Eq.trans (b := u1 k) (g1 k) (Eq.trans (b := t1 (l2 k)) (e1 k) (Eq.trans (b := t1 (p2 k)) (congrArg t1 (o2 k)) (by kernel_rfl))))
def t0 (f1 : T1) : T0 := fun x0 => (iteB (decide ((60 : Int) < ((List.length x0.1 : Nat) : Int))) (f1 true x0) (iteB (decide ((80 : Int) < ((List.length x0.2.2.2.1 : Nat) : Int))) (f1 true x0) (iteB (decide ((100 : Int) < ((List.length x0.2.2.2.2.1 : Nat) : Int))) (f1 true x0) (iteB (decide ((100 : Int) < ((List.length x0.2.2.2.2.2.1 : Nat) : Int))) (f1 true x0) (iteB (decide ((20 : Int) < ((List.length x0.2.2.2.2.2.2.1 : Nat) : Int))) (f1 true x0) (iteB (decide ((20 : Int) < ((List.length x0.2.2.2.2.2.2.2.1 : Nat) : Int))) (f1 true x0) (f1 (decide ((20 : Int) < ((List.length x0.2.2.2.2.2.2.2.2 : Nat) : Int))) x0)))))))
theorem e0 (k : Nat) : u0 k = t0 (l1 k) := by kernel_rfl
def p0 (k : Nat) : T0 := t0 (p1 k)
theorem o0 (k : Nat) : u0 k = p0 k := (Eq.trans (b := t0 (l1 k)) (e0 k) (Eq.trans (b := t0 (p1 k)) (congrArg t0 (o1 k)) (by kernel_rfl)))
end Q49
def s_Q49 (a : D0 × Unit) : Option (Bool × Unit) := Q49.p0 fuel a.1
def F_Q49 : FSpec cx.toNm := { ps := [.val ty0], nres := 1, rt := .bool, rm := .ro, f := s_Q49 }
theorem w_Q49 (a : D0 × Unit) : runOf (S := cx) Q49.E Q49.h fuel Try.f9 F_Q49.ps F_Q49.rt F_Q49.rm a = F_Q49.f a := Eq.trans (b := Q49.u0 fuel a.1) (by kernel_rfl) (Eq.trans (b := Q49.p0 fuel a.1) (congrFun (Q49.o0 fuel) a.1) (by kernel_rfl))
theorem ok_Q49 : FnOk Try.prog F_Q49 9 := fn_of (hn := Q49.h) (E := Q49.E) cxOk (tysT _ _) fs_nil follows Try.func9 (by kernel_rfl) (fun a r h => ⟨fuel, Eq.trans (w_Q49 a) h⟩)
def Fr_Q50 (f : ((Option N1) × ((Option N1) × Unit)) → Option (Bool × Unit)) : FSpec cx.toNm := { ps := [.val (.ptr 1), .val (.ptr 1)], nres := 1, rt := .bool, rm := .ro, f := f }
def Fr_Q51 (f : ((List (Option N1)) × ((List (Option N1)) × (Unit × Unit))) → Option (Bool × Unit)) : FSpec cx.toNm := { ps := [.val (.slice 35 (.ptr 1)), .val (.slice 35 (.ptr 1)), .val (.clo 21 .unit)], nres := 1, rt := .bool, rm := .ro, f := f }
namespace Q50
def E (sf_Q50 : Y_Q50) (sf_Q51 : Y_Q51) : Env cx := { tys := tys, fs := fsOf [(44, (Fr_Q51 sf_Q51))] }
abbrev R := Option (Bool × Unit)
abbrev C := Exit → ST cx → R
noncomputable def b : Code := bodyC Try.f21
def h : Hint := { vs := [0, 1, 4], nil := [], cuts := [(2, ([0, 1, 10], []), ([0, 1], [])), (3, ([0, 1], []), ([0, 1], []))], ret := ([4], []), ords := [] }
def K0 (sf_Q50 : Y_Q50) (sf_Q51 : Y_Q51) : C := fin (S := cx) (E sf_Q50 sf_Q51) Try.f21.results.toList .bool .ro [] []
def c0 : Code := subC b [1]
def K1 (sf_Q50 : Y_Q50) (sf_Q51 : Y_Q51) (k : Nat) : C := outD h c0 (K0 sf_Q50 sf_Q51)
def c1 : Code := subC b [1, 1]
def K3 (sf_Q50 : Y_Q50) (sf_Q51 : Y_Q51) (k : Nat) : C := outD h c1 (K1 sf_Q50 sf_Q51 k)
def K4 (sf_Q50 : Y_Q50) (sf_Q51 : Y_Q51) (k : Nat) : C := seqC (E sf_Q50 sf_Q51) h k c1 (K1 sf_Q50 sf_Q51 k)
def c2 : Code := subC b [1, 0, 1]
def K5 (sf_Q50 : Y_Q50) (sf_Q51 : Y_Q51) (k : Nat) : C := outD h c2 (K4 sf_Q50 sf_Q51 k)
abbrev T2 := (Option N1) → (Option N1) → R
abbrev T1 := (Option N1) → (Option N1) → Bool → R
abbrev T0 := (Option N1) → (Option N1) → R
abbrev s2 := fun x0 x1 => (⟨[(0, .v (.ptr 1) .ro x0), (1, .v (.ptr 1) .ro x1)], [], []⟩ : ST cx)
def u2 (sf_Q50 : Y_Q50) (sf_Q51 : Y_Q51) (k : Nat) : T2 := fun x0 x1 => uK (run (E sf_Q50 sf_Q51) h k c1) (s2 x0 x1) (K3 sf_Q50 sf_Q51 k)
abbrev l2 (sf_Q50 : Y_Q50) (sf_Q51 : Y_Q51) (k : Nat) : T2 := fun x0 x1 => cutK (run (E sf_Q50 sf_Q51) h k c1) (s2 x0 x1) (K3 sf_Q50 sf_Q51 k)
abbrev s1 := fun x0 x1 x10 => (⟨[(0, .v (.ptr 1) .ro x0), (1, .v (.ptr 1) .ro x1), (10, .v .bool .ro x10)], [], []⟩ : ST cx)
def u1 (sf_Q50 : Y_Q50) (sf_Q51 : Y_Q51) (k : Nat) : T1 := fun x0 x1 x10 => uK (run (E sf_Q50 sf_Q51) h k c2) (s1 x0 x1 x10) (K5 sf_Q50 sf_Q51 k)
abbrev l1 (sf_Q50 : Y_Q50) (sf_Q51 : Y_Q51) (k : Nat) : T1 := fun x0 x1 x10 => cutK (run (E sf_Q50 sf_Q51) h k c2) (s1 x0 x1 x10) (K5 sf_Q50 sf_Q51 k)
def u0 (sf_Q50 : Y_Q50) (sf_Q51 : Y_Q51) (k : Nat) : T0 := fun x0 x1 => runOf (S := cx) (E sf_Q50 sf_Q51) h k Try.f21 [.val (.ptr 1), .val (.ptr 1)] .bool .ro (x0, x1, ())
def t2 (sf_Q50 : Y_Q50) (sf_Q51 : Y_Q51) : T2 := fun x0 x1 => (ptrR x0 x1 (some (true, ())) (bindR x0 fun z1 => (bindR x1 fun z2 => (iteB (decide ((out1 z1).1 = (out1 z2).1)) (bindR x0 fun z3 => (bindR x1 fun z4 => (iteB (decide ((out1 z3).2.1 = (out1 z4).2.1)) (bindR x0 fun z5 => (bindR x1 fun z6 => (iteB (decide ((out1 z5).2.2.1 = (out1 z6).2.2.1)) (bindR x0 fun z7 => (bindR x1 fun z8 => (bindR (sf_Q51 ((out1 z7).2.2.2.1, ((out1 z8).2.2.2.1, ((), ())))) fun r9 => (some (r9.1, ()))))) (some (false, ()))))) (some (false, ()))))) (some (false, ()))))))
theorem e2 (sf_Q50 : Y_Q50) (sf_Q51 : Y_Q51) (k : Nat) : u2 sf_Q50 sf_Q51 k = t2 sf_Q50 sf_Q51 := by kernel_rfl
theorem g2 (sf_Q50 : Y_Q50) (sf_Q51 : Y_Q51) (k : Nat) : l2 sf_Q50 sf_Q51 k = u2 sf_Q50 sf_Q51 k := funext fun _ => funext fun _ => cut_u _ _ _
def p2 (sf_Q50 : Y_Q50) (sf_Q51 : Y_Q51) (k : Nat) : T2 := t2 sf_Q50 sf_Q51
theorem o2 (sf_Q50 : Y_Q50) (sf_Q51 : Y_Q51) (k : Nat) : l2 sf_Q50 sf_Q51 k = p2 sf_Q50 sf_Q51 k := (Eq.trans (b := u2 sf_Q50 sf_Q51 k) (g2 sf_Q50 sf_Q51 k) (Eq.trans (b := t2 sf_Q50 sf_Q51) (e2 sf_Q50 sf_Q51 k) (by kernel_rfl)))
def t1 (sf_Q50 : Y_Q50) (sf_Q51 : Y_Q51) (f2 : T2) : T1 := fun x0 x1 x10 => (iteB x10 (ptrR x0 x1 (some (true, ())) (some (false, ()))) (f2 x0 x1))
theorem e1 (sf_Q50 : Y_Q50) (sf_Q51 : Y_Q51) (k : Nat) : u1 sf_Q50 sf_Q51 k = t1 sf_Q50 sf_Q51 (l2 sf_Q50 sf_Q51 k) := by kernel_rfl
theorem g1 (sf_Q50 : Y_Q50) (sf_Q51 : Y_Q51) (k : Nat) : l1 sf_Q50 sf_Q51 k = u1 sf_Q50 sf_Q51 k := funext fun _ => funext fun _ => funext fun _ => cut_u _ _ _
def p1 (sf_Q50 : Y_Q50) (sf_Q51 : Y_Q51) (k : Nat) : T1 := t1 sf_Q50 sf_Q51 (p2 sf_Q50 sf_Q51 k)
theorem o1 (sf_Q50 : Y_Q50) (sf_Q51 : Y_Q51) (k : Nat) : l1 sf_Q50 sf_Q51 k = p1 sf_Q50 sf_Q51 k := (Eq.trans (b := u1 sf_Q50 sf_Q51 k) (g1 sf_Q50 sf_Q51 k) (Eq.trans (b := t1 sf_Q50 sf_Q51 (l2 sf_Q50 sf_Q51 k)) (e1 sf_Q50 sf_Q51 k) (Eq.trans (b := t1 sf_Q50 sf_Q51 (p2 sf_Q50 sf_Q51 k)) (congrArg (t1 sf_Q50 sf_Q51) (o2 sf_Q50 sf_Q51 k)) (by kernel_rfl))))
def t0 (sf_Q50 : Y_Q50) (sf_Q51 : Y_Q51) (f1 : T1) : T0 := fun x0 x1 => (iteB (Option.isNone x0) (f1 x0 x1 true) (f1 x0 x1 (Option.isNone x1)))
theorem e0 (sf_Q50 : Y_Q50) (sf_Q51 : Y_Q51) (k : Nat) : u0 sf_Q50 sf_Q51 k = t0 sf_Q50 sf_Q51 (l1 sf_Q50 sf_Q51 k) := by kernel_rfl
def p0 (sf_Q50 : Y_Q50) (sf_Q51 : Y_Q51) (k : Nat) : T0 := t0 sf_Q50 sf_Q51 (p1 sf_Q50 sf_Q51 k)
theorem o0 (sf_Q50 : Y_Q50) (sf_Q51 : Y_Q51) (k : Nat) : u0 sf_Q50 sf_Q51 k = p0 sf_Q50 sf_Q51 k := (Eq.trans (b := t0 sf_Q50 sf_Q51 (l1 sf_Q50 sf_Q51 k)) (e0 sf_Q50 sf_Q51 k) (Eq.trans (b := t0 sf_Q50 sf_Q51 (p1 sf_Q50 sf_Q51 k)) (congrArg (t0 sf_Q50 sf_Q51) (o1 sf_Q50 sf_Q51 k)) (by kernel_rfl)))
end Q50
namespace Q51
def E (sf_Q50 : Y_Q50) (sf_Q51 : Y_Q51) : Env cx := { tys := tys, fs := fsOf [(21, (Fr_Q50 sf_Q50))] }
abbrev R := Option (Bool × Unit)
abbrev C := Exit → ST cx → R
noncomputable def b : Code := bodyC Try.f44
def h : Hint := { vs := [0, 1, 2, 6, 7, 8, 9, 15, 16, 17], nil := [], cuts := [(4, ([1, 2, 15, 16, 17], []), ([], [])), (10, ([], []), ([], []))], ret := ([6], []), ords := [] }
def K0 (sf_Q50 : Y_Q50) (sf_Q51 : Y_Q51) : C := fin (S := cx) (E sf_Q50 sf_Q51) Try.f44.results.toList .bool .ro [] []
def c0 : Code := subC b [1]
def K1 (sf_Q50 : Y_Q50) (sf_Q51 : Y_Q51) (k : Nat) : C := outD h c0 (K0 sf_Q50 sf_Q51)
def c1 : Code := subC b [1, 1]
def K3 (sf_Q50 : Y_Q50) (sf_Q51 : Y_Q51) (k : Nat) : C := outD h c1 (K1 sf_Q50 sf_Q51 k)
def c4 : Code := subC b [1, 1, 1]
def K9 (sf_Q50 : Y_Q50) (sf_Q51 : Y_Q51) (k : Nat) : C := outD h c4 (K3 sf_Q50 sf_Q51 k)
def K10 (sf_Q50 : Y_Q50) (sf_Q51 : Y_Q51) (k : Nat) : C := seqC (E sf_Q50 sf_Q51) h k c4 (K3 sf_Q50 sf_Q51 k)
def c5 : Code := subC b [1, 1, 0, 1]
def K11 (sf_Q50 : Y_Q50) (sf_Q51 : Y_Q51) (k : Nat) : C := outD h c5 (K10 sf_Q50 sf_Q51 k)
def K13 (sf_Q50 : Y_Q50) (sf_Q51 : Y_Q51) (k : Nat) : C := blockK 0 (K11 sf_Q50 sf_Q51 k)
def c6 : Code := subC b [1, 1, 0, 1, 0, 0]
abbrev T2 := R
abbrev T1 := (List (Option N1)) → Unit → (List (Option N1)) → Int → Int → R
abbrev T0 := (List (Option N1)) → (List (Option N1)) → Unit → R
abbrev s2 : ST cx := (⟨[], [], []⟩ : ST cx)
def u2 (sf_Q50 : Y_Q50) (sf_Q51 : Y_Q51) (k : Nat) : T2 := uK (run (E sf_Q50 sf_Q51) h k c4) s2 (K9 sf_Q50 sf_Q51 k)
abbrev l2 (sf_Q50 : Y_Q50) (sf_Q51 : Y_Q51) (k : Nat) : T2 := cutK (run (E sf_Q50 sf_Q51) h k c4) s2 (K9 sf_Q50 sf_Q51 k)
abbrev s1 := fun x1 x2 x15 x16 x17 => (⟨[(1, .v (.slice 35 (.ptr 1)) .ro x1), (2, .v (.clo 21 .unit) .ro x2), (15, .v (.slice 35 (.ptr 1)) .ro x15), (16, .v (.int .i64) .ro x16), (17, .v (.int .i64) .ro x17)], [], []⟩ : ST cx)
def u1 (sf_Q50 : Y_Q50) (sf_Q51 : Y_Q51) (k n1 : Nat) : T1 := fun x1 x2 x15 x16 x17 => uK (loopL (E sf_Q50 sf_Q51) h k c6 (K13 sf_Q50 sf_Q51 k) n1) (s1 x1 x2 x15 x16 x17) ()
abbrev l1 (sf_Q50 : Y_Q50) (sf_Q51 : Y_Q51) (k n1 : Nat) : T1 := fun x1 x2 x15 x16 x17 => cutK (loopL (E sf_Q50 sf_Q51) h k c6 (K13 sf_Q50 sf_Q51 k) n1) (s1 x1 x2 x15 x16 x17) ()
def u0 (sf_Q50 : Y_Q50) (sf_Q51 : Y_Q51) (k : Nat) : T0 := fun x0 x1 x2 => runOf (S := cx) (E sf_Q50 sf_Q51) h k Try.f44 [.val (.slice 35 (.ptr 1)), .val (.slice 35 (.ptr 1)), .val (.clo 21 .unit)] .bool .ro (x0, x1, x2, ())
def t2 (sf_Q50 : Y_Q50) (sf_Q51 : Y_Q51) : T2 := 
  (some (true, ()))
theorem e2 (sf_Q50 : Y_Q50) (sf_Q51 : Y_Q51) (k : Nat) : u2 sf_Q50 sf_Q51 k = t2 sf_Q50 sf_Q51 := by kernel_rfl
theorem g2 (sf_Q50 : Y_Q50) (sf_Q51 : Y_Q51) (k : Nat) : l2 sf_Q50 sf_Q51 k = u2 sf_Q50 sf_Q51 k := cut_u _ _ _
def p2 (sf_Q50 : Y_Q50) (sf_Q51 : Y_Q51) (k : Nat) : T2 := t2 sf_Q50 sf_Q51
theorem o2 (sf_Q50 : Y_Q50) (sf_Q51 : Y_Q51) (k : Nat) : l2 sf_Q50 sf_Q51 k = p2 sf_Q50 sf_Q51 k := (Eq.trans (b := u2 sf_Q50 sf_Q51 k) (g2 sf_Q50 sf_Q51 k) (Eq.trans (b := t2 sf_Q50 sf_Q51) (e2 sf_Q50 sf_Q51 k) (by kernel_rfl)))
def t1 (sf_Q50 : Y_Q50) (sf_Q51 : Y_Q51) (f1 : T1) (f2 : T2) : T1 := fun x1 x2 x15 x16 x17 => (iteB (decide (x17 < x16)) (wnR x17 (List.length x15) fun q1 => (wnR x17 (List.length x1) fun q2 => (bindR (sf_Q50 ((List.getD x15 q1 none), ((List.getD x1 q2 none), ()))) fun r3 => (iteB (notB r3.1) (some (false, ())) (f1 x1 x2 x15 x16 (w64 (x17 + (1 : Int)))))))) f2)
theorem e1 (sf_Q50 : Y_Q50) (sf_Q51 : Y_Q51) (k n1 : Nat) : u1 sf_Q50 sf_Q51 k (n1 + 1) = t1 sf_Q50 sf_Q51 (l1 sf_Q50 sf_Q51 k n1) (l2 sf_Q50 sf_Q51 k) := by kernel_rfl
theorem g1 (sf_Q50 : Y_Q50) (sf_Q51 : Y_Q51) (k n1 : Nat) : l1 sf_Q50 sf_Q51 k (n1 + 1) = u1 sf_Q50 sf_Q51 k (n1 + 1) := funext fun _ => funext fun _ => funext fun _ => funext fun _ => funext fun _ => cut_u _ _ _
def p1 (sf_Q50 : Y_Q50) (sf_Q51 : Y_Q51) (k : Nat) : Nat → T1
  | 0 => fun _ _ _ _ _ => none
  | n1 + 1 => t1 sf_Q50 sf_Q51 (p1 sf_Q50 sf_Q51 k n1) (p2 sf_Q50 sf_Q51 k)
theorem o1 (sf_Q50 : Y_Q50) (sf_Q51 : Y_Q51) (k : Nat) : ∀ n1, l1 sf_Q50 sf_Q51 k n1 = p1 sf_Q50 sf_Q51 k n1 := by
  intro n1
  induction n1 with
  | zero => kernel_rfl
  | succ n1 ih => exact (Eq.trans (b := u1 sf_Q50 sf_Q51 k (n1 + 1)) (g1 sf_Q50 sf_Q51 k n1) (Eq.trans (b := t1 sf_Q50 sf_Q51 (l1 sf_Q50 sf_Q51 k n1) (l2 sf_Q50 sf_Q51 k)) (e1 sf_Q50 sf_Q51 k n1) (Eq.trans (b := t1 sf_Q50 sf_Q51 (p1 sf_Q50 sf_Q51 k n1) (p2 sf_Q50 sf_Q51 k)) (congr (congrArg (t1 sf_Q50 sf_Q51) ih) (o2 sf_Q50 sf_Q51 k)) (by kernel_rfl))))
def t0 (sf_Q50 : Y_Q50) (sf_Q51 : Y_Q51) (f1 : T1) : T0 := fun x0 x1 x2 => (iteB (!decide (((List.length x0 : Nat) : Int) = ((List.length x1 : Nat) : Int))) (some (false, ())) (f1 x1 x2 x0 ((List.length x0 : Nat) : Int) (0 : Int)))
theorem e0 (sf_Q50 : Y_Q50) (sf_Q51 : Y_Q51) (k : Nat) : u0 sf_Q50 sf_Q51 k = t0 sf_Q50 sf_Q51 (l1 sf_Q50 sf_Q51 k k) := by kernel_rfl
def p0 (sf_Q50 : Y_Q50) (sf_Q51 : Y_Q51) (k : Nat) : T0 := t0 sf_Q50 sf_Q51 (p1 sf_Q50 sf_Q51 k k)
theorem o0 (sf_Q50 : Y_Q50) (sf_Q51 : Y_Q51) (k : Nat) : u0 sf_Q50 sf_Q51 k = p0 sf_Q50 sf_Q51 k := (Eq.trans (b := t0 sf_Q50 sf_Q51 (l1 sf_Q50 sf_Q51 k k)) (e0 sf_Q50 sf_Q51 k) (Eq.trans (b := t0 sf_Q50 sf_Q51 (p1 sf_Q50 sf_Q51 k k)) (congrArg (t0 sf_Q50 sf_Q51) (o1 sf_Q50 sf_Q51 k k)) (by kernel_rfl)))
end Q51
mutual
def r_Q50 : Nat → ((Option N1) × ((Option N1) × Unit)) → Option (Bool × Unit)
  | 0, _ => none
  | n + 1, a => Q50.p0 (r_Q50 n) (r_Q51 n) fuel a.1 a.2.1
def r_Q51 : Nat → ((List (Option N1)) × ((List (Option N1)) × (Unit × Unit))) → Option (Bool × Unit)
  | 0, _ => none
  | n + 1, a => Q51.p0 (r_Q50 n) (r_Q51 n) fuel a.1 a.2.1 a.2.2.1
end
def Fr_Q52 (f : (D2 × Unit) → Option ((Option N1) × Unit)) : FSpec cx.toNm := { ps := [.val ty2], nres := 1, rt := (.ptr 1), rm := .ro, f := f }
namespace Q52
def E (sf_Q52 : Y_Q52) : Env cx := { tys := tys, fs := fsOf [(18, (Fr_Q52 sf_Q52))] }
abbrev R := Option ((Option N1) × Unit)
abbrev C := Exit → ST cx → R
noncomputable def b : Code := bodyC Try.f18
def h : Hint := { vs := [0, 1, 2, 3, 4], nil := [(17, (.pr .ro (.pr .ro (.pr .ro (.pr (.own .ro) .ro)))))], cuts := [(5, ([1, 3, 4], [1, 18]), ([3], [18])), (8, ([3], [18]), ([3], [18]))], ret := ([2], [1, 18]), ords := [] }
def K0 (sf_Q52 : Y_Q52) : C := fin (S := cx) (E sf_Q52) Try.f18.results.toList (.ptr 1) .ro [] []
def c0 : Code := subC b [1]
def K1 (sf_Q52 : Y_Q52) (k : Nat) : C := outD h c0 (K0 sf_Q52)
def c1 : Code := subC b [1, 1]
def K3 (sf_Q52 : Y_Q52) (k : Nat) : C := outD h c1 (K1 sf_Q52 k)
def c4 : Code := subC b [1, 1, 1]
def K9 (sf_Q52 : Y_Q52) (k : Nat) : C := outD h c4 (K3 sf_Q52 k)
def c5 : Code := subC b [1, 1, 1, 1]
def K11 (sf_Q52 : Y_Q52) (k : Nat) : C := outD h c5 (K9 sf_Q52 k)
def K12 (sf_Q52 : Y_Q52) (k : Nat) : C := seqC (E sf_Q52) h k c5 (K9 sf_Q52 k)
def c6 : Code := subC b [1, 1, 1, 0, 1]
def K13 (sf_Q52 : Y_Q52) (k : Nat) : C := outD h c6 (K12 sf_Q52 k)
def K15 (sf_Q52 : Y_Q52) (k : Nat) : C := blockK 0 (K13 sf_Q52 k)
def c7 : Code := subC b [1, 1, 1, 0, 1, 0, 0]
abbrev T2 := D1 → R
abbrev T1 := Int → D2 → D1 → R
abbrev T0 := D2 → R
abbrev s2 := fun m18 => (⟨[(3, .addr (.mem 18) [])], [], [(18, ⟨ty1, (.pr .ro (.pr .ro (.pr .ro (.pr (.own .ro) .ro)))), m18⟩)]⟩ : ST cx)
def u2 (sf_Q52 : Y_Q52) (k : Nat) : T2 := fun m18 => uK (run (E sf_Q52) h k c5) (s2 m18) (K11 sf_Q52 k)
abbrev l2 (sf_Q52 : Y_Q52) (k : Nat) : T2 := fun m18 => cutK (run (E sf_Q52) h k c5) (s2 m18) (K11 sf_Q52 k)
abbrev s1 := fun x4 m1 m18 => (⟨[(1, .addr (.mem 1) []), (3, .addr (.mem 18) []), (4, .v (.int .i64) .ro x4)], [], [(1, ⟨ty2, .ro, m1⟩), (18, ⟨ty1, (.pr .ro (.pr .ro (.pr .ro (.pr (.own .ro) .ro)))), m18⟩)]⟩ : ST cx)
def u1 (sf_Q52 : Y_Q52) (k n1 : Nat) : T1 := fun x4 m1 m18 => uK (loopL (E sf_Q52) h k c7 (K15 sf_Q52 k) n1) (s1 x4 m1 m18) ()
abbrev l1 (sf_Q52 : Y_Q52) (k n1 : Nat) : T1 := fun x4 m1 m18 => cutK (loopL (E sf_Q52) h k c7 (K15 sf_Q52 k) n1) (s1 x4 m1 m18) ()
def u0 (sf_Q52 : Y_Q52) (k : Nat) : T0 := fun x0 => runOf (S := cx) (E sf_Q52) h k Try.f18 [.val ty2] (.ptr 1) .ro (x0, ())
def t2 (sf_Q52 : Y_Q52) : T2 := fun m18 => (some ((some (pk1 m18)), ()))
theorem e2 (sf_Q52 : Y_Q52) (k : Nat) : u2 sf_Q52 k = t2 sf_Q52 := by kernel_rfl
theorem g2 (sf_Q52 : Y_Q52) (k : Nat) : l2 sf_Q52 k = u2 sf_Q52 k := funext fun _ => cut_u _ _ _
def p2 (sf_Q52 : Y_Q52) (k : Nat) : T2 := t2 sf_Q52
theorem o2 (sf_Q52 : Y_Q52) (k : Nat) : l2 sf_Q52 k = p2 sf_Q52 k := (Eq.trans (b := u2 sf_Q52 k) (g2 sf_Q52 k) (Eq.trans (b := t2 sf_Q52) (e2 sf_Q52 k) (by kernel_rfl)))
def t1 (sf_Q52 : Y_Q52) (f1 : T1) (f2 : T2) : T1 := fun x4 m1 m18 => (iteB (decide (x4 < ((List.length m1.2.2.2.2.1 : Nat) : Int))) (wnR x4 (List.length m1.2.2.2.2.1) fun q1 => (bindR (sf_Q52 ((out0 (List.getD m1.2.2.2.2.1 q1 (pk0 (false, ((0 : Int), ((0 : Int), (([] : List UInt8), (([] : List N0), ((0 : Int), (0 : Int)))))))))), ())) fun r2 => (mustR (room m18.2.2.2.1 ([r2.1] : List (Option N1))) (f1 (w64 (x4 + (1 : Int))) m1 (m18.1, (m18.2.1, (m18.2.2.1, ((m18.2.2.2.1 ++ ([r2.1] : List (Option N1))), m18.2.2.2.2)))))))) (f2 m18))
theorem e1 (sf_Q52 : Y_Q52) (k n1 : Nat) : u1 sf_Q52 k (n1 + 1) = t1 sf_Q52 (l1 sf_Q52 k n1) (l2 sf_Q52 k) := by kernel_rfl
theorem g1 (sf_Q52 : Y_Q52) (k n1 : Nat) : l1 sf_Q52 k (n1 + 1) = u1 sf_Q52 k (n1 + 1) := funext fun _ => funext fun _ => funext fun _ => cut_u _ _ _
def p1 (sf_Q52 : Y_Q52) (k : Nat) : Nat → T1
  | 0 => fun _ _ _ => none
  | n1 + 1 => t1 sf_Q52 (p1 sf_Q52 k n1) (p2 sf_Q52 k)
theorem o1 (sf_Q52 : Y_Q52) (k : Nat) : ∀ n1, l1 sf_Q52 k n1 = p1 sf_Q52 k n1 := by
  intro n1
  induction n1 with
  | zero => kernel_rfl
  | succ n1 ih => exact (Eq.trans (b := u1 sf_Q52 k (n1 + 1)) (g1 sf_Q52 k n1) (Eq.trans (b := t1 sf_Q52 (l1 sf_Q52 k n1) (l2 sf_Q52 k)) (e1 sf_Q52 k n1) (Eq.trans (b := t1 sf_Q52 (p1 sf_Q52 k n1) (p2 sf_Q52 k)) (congr (congrArg (t1 sf_Q52) ih) (o2 sf_Q52 k)) (by kernel_rfl))))
def t0 (sf_Q52 : Y_Q52) (f1 : T1) : T0 := fun x0 => (iteB x0.1 (some (none, ())) (f1 (0 : Int) x0 (x0.2.1, (x0.2.2.1, (x0.2.2.2.1, (([] : List (Option N1)), (x0.2.2.2.2.2.1, x0.2.2.2.2.2.2)))))))
theorem e0 (sf_Q52 : Y_Q52) (k : Nat) : u0 sf_Q52 k = t0 sf_Q52 (l1 sf_Q52 k k) := by kernel_rfl
def p0 (sf_Q52 : Y_Q52) (k : Nat) : T0 := t0 sf_Q52 (p1 sf_Q52 k k)
theorem o0 (sf_Q52 : Y_Q52) (k : Nat) : u0 sf_Q52 k = p0 sf_Q52 k := (Eq.trans (b := t0 sf_Q52 (l1 sf_Q52 k k)) (e0 sf_Q52 k) (Eq.trans (b := t0 sf_Q52 (p1 sf_Q52 k k)) (congrArg (t0 sf_Q52) (o1 sf_Q52 k k)) (by kernel_rfl)))
end Q52
def r_Q52 : Nat → (D2 × Unit) → Option ((Option N1) × Unit)
  | 0, _ => none
  | n + 1, a => Q52.p0 (r_Q52 n) fuel a.1
theorem okr_Q52 : ∀ n, FnOk Try.prog (Fr_Q52 (r_Q52 n)) 18
  | 0 => fn_none (fun _ => rfl)
  | n + 1 => fn_of (F := Fr_Q52 (r_Q52 (n + 1))) (hn := Q52.h) (E := Q52.E (r_Q52 n)) cxOk (tysT _ _) (fs_cons (okr_Q52 n) fs_nil) follows Try.func18 (by kernel_rfl) (fun a r h => ⟨fuel, Eq.trans (c := some r) (congrFun (Q52.o0 (r_Q52 n) fuel) a.1) h⟩)
def s_Q52 (a : D2 × Unit) : Option ((Option N1) × Unit) := r_Q52 fuel a
def F_Q52 : FSpec cx.toNm := Fr_Q52 s_Q52
theorem ok_Q52 : FnOk Try.prog F_Q52 18 := fun w Z own vs a r h1 h2 h3 h4 => (okr_Q52 fuel) w Z own vs a r h1 h2 h3 h4
namespace Q53
def E : Env cx := { tys := tys, fs := fsOf [] }
abbrev R := Option (Int × Unit)
abbrev C := Exit → ST cx → R
noncomputable def b : Code := bodyC Try.f86
def h : Hint := { vs := [0, 1, 4, 5, 7, 8], nil := [], cuts := [(2, ([0, 1, 7, 8], []), ([], [])), (7, ([], []), ([], []))], ret := ([4], []), ords := [] }
def K0 : C := fin (S := cx) E Try.f86.results.toList (.int .i64) .ro [] []
def c0 : Code := subC b [1]
def K1 (k : Nat) : C := outD h c0 K0
def c1 : Code := subC b [1, 1]
def K3 (k : Nat) : C := outD h c1 (K1 k)
def K4 (k : Nat) : C := seqC E h k c1 (K1 k)
def c2 : Code := subC b [1, 0, 1]
def K5 (k : Nat) : C := outD h c2 (K4 k)
def K7 (k : Nat) : C := blockK 0 (K5 k)
def c3 : Code := subC b [1, 0, 1, 0, 0]
abbrev T2 := R
abbrev T1 := (List (Option N1)) → (Option N1) → Int → Int → R
abbrev T0 := (List (Option N1)) → (Option N1) → R
abbrev s2 : ST cx := (⟨[], [], []⟩ : ST cx)
def u2 (k : Nat) : T2 := uK (run E h k c1) s2 (K3 k)
abbrev l2 (k : Nat) : T2 := cutK (run E h k c1) s2 (K3 k)
abbrev s1 := fun x0 x1 x7 x8 => (⟨[(0, .v (.slice 35 (.ptr 1)) .ro x0), (1, .v (.ptr 1) .ro x1), (7, .v (.int .i64) .ro x7), (8, .v (.int .i64) .ro x8)], [], []⟩ : ST cx)
def u1 (k n1 : Nat) : T1 := fun x0 x1 x7 x8 => uK (loopL E h k c3 (K7 k) n1) (s1 x0 x1 x7 x8) ()
abbrev l1 (k n1 : Nat) : T1 := fun x0 x1 x7 x8 => cutK (loopL E h k c3 (K7 k) n1) (s1 x0 x1 x7 x8) ()
def u0 (k : Nat) : T0 := fun x0 x1 => runOf (S := cx) E h k Try.f86 [.val (.slice 35 (.ptr 1)), .val (.ptr 1)] (.int .i64) .ro (x0, x1, ())
def t2 : T2 := 
  (some ((-1 : Int), ()))
theorem e2 (k : Nat) : u2 k = t2 := by kernel_rfl
theorem g2 (k : Nat) : l2 k = u2 k := cut_u _ _ _
def p2 (k : Nat) : T2 := t2
theorem o2 (k : Nat) : l2 k = p2 k := (Eq.trans (b := u2 k) (g2 k) (Eq.trans (b := t2) (e2 k) (by kernel_rfl)))
def t1 (f1 : T1) (f2 : T2) : T1 := fun x0 x1 x7 x8 => (iteB (decide (x8 < x7)) (wnR x8 (List.length x0) fun q1 => (ptrR x1 (List.getD x0 q1 none) (some (x8, ())) (f1 x0 x1 x7 (w64 (x8 + (1 : Int)))))) f2)
theorem e1 (k n1 : Nat) : u1 k (n1 + 1) = t1 (l1 k n1) (l2 k) := by kernel_rfl
theorem g1 (k n1 : Nat) : l1 k (n1 + 1) = u1 k (n1 + 1) := funext fun _ => funext fun _ => funext fun _ => funext fun _ => cut_u _ _ _
def p1 (k : Nat) : Nat → T1
  | 0 => fun _ _ _ _ => none
  | n1 + 1 => t1 (p1 k n1) (p2 k)
theorem o1 (k : Nat) : ∀ n1, l1 k n1 = p1 k n1 := by
  intro n1
  induction n1 with
  | zero => kernel_rfl
  | succ n1 ih => exact (Eq.trans (b := u1 k (n1 + 1)) (g1 k n1) (Eq.trans (b := t1 (l1 k n1) (l2 k)) (e1 k n1) (Eq.trans (b := t1 (p1 k n1) (p2 k)) (congr (congrArg t1 ih) (o2 k)) (by kernel_rfl))))
def t0 (f1 : T1) : T0 := fun x0 x1 => (f1 x0 x1 ((List.length x0 : Nat) : Int) (0 : Int))
theorem e0 (k : Nat) : u0 k = t0 (l1 k k) := by kernel_rfl
def p0 (k : Nat) : T0 := t0 (p1 k k)
theorem o0 (k : Nat) : u0 k = p0 k := (Eq.trans (b := t0 (l1 k k)) (e0 k) (Eq.trans (b := t0 (p1 k k)) (congrArg t0 (o1 k k)) (by kernel_rfl)))
end Q53
def s_Q53 (a : (List (Option N1)) × ((Option N1) × Unit)) : Option (Int × Unit) := Q53.p0 fuel a.1 a.2.1
def F_Q53 : FSpec cx.toNm := { ps := [.val (.slice 35 (.ptr 1)), .val (.ptr 1)], nres := 1, rt := (.int .i64), rm := .ro, f := s_Q53 }
theorem w_Q53 (a : (List (Option N1)) × ((Option N1) × Unit)) : runOf (S := cx) Q53.E Q53.h fuel Try.f86 F_Q53.ps F_Q53.rt F_Q53.rm a = F_Q53.f a := Eq.trans (b := Q53.u0 fuel a.1 a.2.1) (by kernel_rfl) (Eq.trans (b := Q53.p0 fuel a.1 a.2.1) (congrFun (congrFun (Q53.o0 fuel) a.1) a.2.1) (by kernel_rfl))
theorem ok_Q53 : FnOk Try.prog F_Q53 86 := fn_of (hn := Q53.h) (E := Q53.E) cxOk (tysT _ _) fs_nil follows Try.func86 (by kernel_rfl) (fun a r h => ⟨fuel, Eq.trans (w_Q53 a) h⟩)
namespace Q54
def E : Env cx := { tys := tys, fs := fsOf [(86, F_Q53)] }
abbrev R := Option (Bool × Unit)
abbrev C := Exit → ST cx → R
noncomputable def b : Code := bodyC Try.f66
def h : Hint := { vs := [0, 1, 4], nil := [], cuts := [], ret := ([4], []), ords := [] }
abbrev T0 := (List (Option N1)) → (Option N1) → R
def u0 (k : Nat) : T0 := fun x0 x1 => runOf (S := cx) E h k Try.f66 [.val (.slice 35 (.ptr 1)), .val (.ptr 1)] .bool .ro (x0, x1, ())
def t0 : T0 := fun x0 x1 => (bindR (s_Q53 (x0, (x1, ()))) fun r1 => (some ((decide ((0 : Int) ≤ r1.1)), ())))
theorem e0 (k : Nat) : u0 k = t0 := by kernel_rfl
def p0 (k : Nat) : T0 := t0
theorem o0 (k : Nat) : u0 k = p0 k := (Eq.trans (b := t0) (e0 k) (by kernel_rfl))
end Q54
def s_Q54 (a : (List (Option N1)) × ((Option N1) × Unit)) : Option (Bool × Unit) := Q54.p0 fuel a.1 a.2.1
def F_Q54 : FSpec cx.toNm := { ps := [.val (.slice 35 (.ptr 1)), .val (.ptr 1)], nres := 1, rt := .bool, rm := .ro, f := s_Q54 }
theorem w_Q54 (a : (List (Option N1)) × ((Option N1) × Unit)) : runOf (S := cx) Q54.E Q54.h fuel Try.f66 F_Q54.ps F_Q54.rt F_Q54.rm a = F_Q54.f a := Eq.trans (b := Q54.u0 fuel a.1 a.2.1) (by kernel_rfl) (Eq.trans (b := Q54.p0 fuel a.1 a.2.1) (congrFun (congrFun (Q54.o0 fuel) a.1) a.2.1) (by kernel_rfl))
theorem ok_Q54 : FnOk Try.prog F_Q54 66 := fn_of (hn := Q54.h) (E := Q54.E) cxOk (tysT _ _) (fs_cons ok_Q53 fs_nil) follows Try.func66 (by kernel_rfl) (fun a r h => ⟨fuel, Eq.trans (w_Q54 a) h⟩)
namespace Q55
def E : Env cx := { tys := tys, fs := fsOf [] }
abbrev R := Option (Bool × Unit)
abbrev C := Exit → ST cx → R
noncomputable def b : Code := bodyC Try.f68
def h : Hint := { vs := [0, 1, 4], nil := [], cuts := [], ret := ([4], []), ords := [] }
abbrev T0 := (Option N1) → Int → R
def u0 (k : Nat) : T0 := fun x0 x1 => runOf (S := cx) E h k Try.f68 [.val (.ptr 1), .val (.int .i64)] .bool .ro (x0, x1, ())
def t0 : T0 := fun x0 x1 => (bindR x0 fun z1 => (some ((decide ((out1 z1).1 = x1)), ())))
theorem e0 (k : Nat) : u0 k = t0 := by kernel_rfl
def p0 (k : Nat) : T0 := t0
theorem o0 (k : Nat) : u0 k = p0 k := (Eq.trans (b := t0) (e0 k) (by kernel_rfl))
end Q55
def s_Q55 (a : (Option N1) × (Int × Unit)) : Option (Bool × Unit) := Q55.p0 fuel a.1 a.2.1
def F_Q55 : FSpec cx.toNm := { ps := [.val (.ptr 1), .val (.int .i64)], nres := 1, rt := .bool, rm := .ro, f := s_Q55 }
theorem w_Q55 (a : (Option N1) × (Int × Unit)) : runOf (S := cx) Q55.E Q55.h fuel Try.f68 F_Q55.ps F_Q55.rt F_Q55.rm a = F_Q55.f a := Eq.trans (b := Q55.u0 fuel a.1 a.2.1) (by kernel_rfl) (Eq.trans (b := Q55.p0 fuel a.1 a.2.1) (congrFun (congrFun (Q55.o0 fuel) a.1) a.2.1) (by kernel_rfl))
theorem ok_Q55 : FnOk Try.prog F_Q55 68 := fn_of (hn := Q55.h) (E := Q55.E) cxOk (tysT _ _) fs_nil follows Try.func68 (by kernel_rfl) (fun a r h => ⟨fuel, Eq.trans (w_Q55 a) h⟩)
namespace Q56
def E : Env cx := { tys := tys, fs := fsOf [(68, F_Q55)] }
abbrev R := Option (Bool × Unit)
abbrev C := Exit → ST cx → R
noncomputable def b : Code := bodyC Try.f67
def h : Hint := { vs := [0, 1, 2, 6, 7, 8, 9, 15, 16, 17], nil := [], cuts := [(4, ([1, 2, 15, 16, 17], []), ([], [])), (10, ([], []), ([], []))], ret := ([6], []), ords := [] }
def K0 : C := fin (S := cx) E Try.f67.results.toList .bool .ro [] []
def c0 : Code := subC b [1]
def K1 (k : Nat) : C := outD h c0 K0
def c1 : Code := subC b [1, 1]
def K3 (k : Nat) : C := outD h c1 (K1 k)
def c4 : Code := subC b [1, 1, 1]
def K9 (k : Nat) : C := outD h c4 (K3 k)
def K10 (k : Nat) : C := seqC E h k c4 (K3 k)
def c5 : Code := subC b [1, 1, 0, 1]
def K11 (k : Nat) : C := outD h c5 (K10 k)
def K13 (k : Nat) : C := blockK 0 (K11 k)
def c6 : Code := subC b [1, 1, 0, 1, 0, 0]
abbrev T2 := R
abbrev T1 := (List Int) → Unit → (List (Option N1)) → Int → Int → R
abbrev T0 := (List (Option N1)) → (List Int) → Unit → R
abbrev s2 : ST cx := (⟨[], [], []⟩ : ST cx)
def u2 (k : Nat) : T2 := uK (run E h k c4) s2 (K9 k)
abbrev l2 (k : Nat) : T2 := cutK (run E h k c4) s2 (K9 k)
abbrev s1 := fun x1 x2 x15 x16 x17 => (⟨[(1, .v (.slice 3 (.int .i64)) .ro x1), (2, .v (.clo 68 .unit) .ro x2), (15, .v (.slice 35 (.ptr 1)) .ro x15), (16, .v (.int .i64) .ro x16), (17, .v (.int .i64) .ro x17)], [], []⟩ : ST cx)
def u1 (k n1 : Nat) : T1 := fun x1 x2 x15 x16 x17 => uK (loopL E h k c6 (K13 k) n1) (s1 x1 x2 x15 x16 x17) ()
abbrev l1 (k n1 : Nat) : T1 := fun x1 x2 x15 x16 x17 => cutK (loopL E h k c6 (K13 k) n1) (s1 x1 x2 x15 x16 x17) ()
def u0 (k : Nat) : T0 := fun x0 x1 x2 => runOf (S := cx) E h k Try.f67 [.val (.slice 35 (.ptr 1)), .val (.slice 3 (.int .i64)), .val (.clo 68 .unit)] .bool .ro (x0, x1, x2, ())
def t2 : T2 := 
  (some (true, ()))
theorem e2 (k : Nat) : u2 k = t2 := by kernel_rfl
theorem g2 (k : Nat) : l2 k = u2 k := cut_u _ _ _
def p2 (k : Nat) : T2 := t2
theorem o2 (k : Nat) : l2 k = p2 k := (Eq.trans (b := u2 k) (g2 k) (Eq.trans (b := t2) (e2 k) (by kernel_rfl)))
def t1 (f1 : T1) (f2 : T2) : T1 := fun x1 x2 x15 x16 x17 => (iteB (decide (x17 < x16)) (wnR x17 (List.length x15) fun q1 => (wnR x17 (List.length x1) fun q2 => (bindR (s_Q55 ((List.getD x15 q1 none), ((List.getD x1 q2 (0 : Int)), ()))) fun r3 => (iteB (notB r3.1) (some (false, ())) (f1 x1 x2 x15 x16 (w64 (x17 + (1 : Int)))))))) f2)
theorem e1 (k n1 : Nat) : u1 k (n1 + 1) = t1 (l1 k n1) (l2 k) := by kernel_rfl
theorem g1 (k n1 : Nat) : l1 k (n1 + 1) = u1 k (n1 + 1) := funext fun _ => funext fun _ => funext fun _ => funext fun _ => funext fun _ => cut_u _ _ _
def p1 (k : Nat) : Nat → T1
  | 0 => fun _ _ _ _ _ => none
  | n1 + 1 => t1 (p1 k n1) (p2 k)
theorem o1 (k : Nat) : ∀ n1, l1 k n1 = p1 k n1 := by
  intro n1
  induction n1 with
  | zero => kernel_rfl
  | succ n1 ih => exact (Eq.trans (b := u1 k (n1 + 1)) (g1 k n1) (Eq.trans (b := t1 (l1 k n1) (l2 k)) (e1 k n1) (Eq.trans (b := t1 (p1 k n1) (p2 k)) (congr (congrArg t1 ih) (o2 k)) (by kernel_rfl))))
def t0 (f1 : T1) : T0 := fun x0 x1 x2 => (iteB (!decide (((List.length x0 : Nat) : Int) = ((List.length x1 : Nat) : Int))) (some (false, ())) (f1 x1 x2 x0 ((List.length x0 : Nat) : Int) (0 : Int)))
theorem e0 (k : Nat) : u0 k = t0 (l1 k k) := by kernel_rfl
def p0 (k : Nat) : T0 := t0 (p1 k k)
theorem o0 (k : Nat) : u0 k = p0 k := (Eq.trans (b := t0 (l1 k k)) (e0 k) (Eq.trans (b := t0 (p1 k k)) (congrArg t0 (o1 k k)) (by kernel_rfl)))
end Q56
def s_Q56 (a : (List (Option N1)) × ((List Int) × (Unit × Unit))) : Option (Bool × Unit) := Q56.p0 fuel a.1 a.2.1 a.2.2.1
def F_Q56 : FSpec cx.toNm := { ps := [.val (.slice 35 (.ptr 1)), .val (.slice 3 (.int .i64)), .val (.clo 68 .unit)], nres := 1, rt := .bool, rm := .ro, f := s_Q56 }
theorem w_Q56 (a : (List (Option N1)) × ((List Int) × (Unit × Unit))) : runOf (S := cx) Q56.E Q56.h fuel Try.f67 F_Q56.ps F_Q56.rt F_Q56.rm a = F_Q56.f a := Eq.trans (b := Q56.u0 fuel a.1 a.2.1 a.2.2.1) (by kernel_rfl) (Eq.trans (b := Q56.p0 fuel a.1 a.2.1 a.2.2.1) (congrFun (congrFun (congrFun (Q56.o0 fuel) a.1) a.2.1) a.2.2.1) (by kernel_rfl))
theorem ok_Q56 : FnOk Try.prog F_Q56 67 := fn_of (hn := Q56.h) (E := Q56.E) cxOk (tysT _ _) (fs_cons ok_Q55 fs_nil) follows Try.func67 (by kernel_rfl) (fun a r h => ⟨fuel, Eq.trans (w_Q56 a) h⟩)
namespace Q57
def E : Env cx := { tys := tys, fs := fsOf [] }
abbrev R := Option (Int × Unit)
abbrev C := Exit → ST cx → R
noncomputable def b : Code := bodyC Try.f40
def h : Hint := { vs := [0, 2, 3, 5, 6, 7, 8], nil := [], cuts := [(3, ([3, 6, 7, 8], []), ([3], [])), (7, ([3, 6, 7, 8], []), ([3, 6, 7, 8], [])), (8, ([3], []), ([3], []))], ret := ([2], []), ords := [] }
def K0 : C := fin (S := cx) E Try.f40.results.toList (.int .i64) .ro [] []
def c0 : Code := subC b [1]
def K1 (k : Nat) : C := outD h c0 K0
def c1 : Code := subC b [1, 1]
def K3 (k : Nat) : C := outD h c1 (K1 k)
def c2 : Code := subC b [1, 1, 1]
def K5 (k : Nat) : C := outD h c2 (K3 k)
def K6 (k : Nat) : C := seqC E h k c2 (K3 k)
def c3 : Code := subC b [1, 1, 0, 1]
def K7 (k : Nat) : C := outD h c3 (K6 k)
def K9 (k : Nat) : C := blockK 0 (K7 k)
def c4 : Code := subC b [1, 1, 0, 1, 0, 0]
def K10 (k n1 : Nat) : C := loopD E h k c4 (K9 k) n1
def c5 : Code := subC b [1, 1, 0, 1, 0, 0, 1]
def K11 (k n1 : Nat) : C := outD h c5 (K10 k n1)
def c6 : Code := subC b [1, 1, 0, 1, 0, 0, 1, 1]
def K13 (k n1 : Nat) : C := outD h c6 (K11 k n1)
def c7 : Code := subC b [1, 1, 0, 1, 0, 0, 1, 1, 1]
def K15 (k n1 : Nat) : C := outD h c7 (K13 k n1)
abbrev T2 := Int → (List (Option N1)) → Int → Int → R
abbrev T3 := Int → R
abbrev T1 := Int → (List (Option N1)) → Int → Int → R
abbrev T0 := (List (Option N1)) → R
abbrev s2 := fun x3 x6 x7 x8 => (⟨[(3, .v (.int .i64) .ro x3), (6, .v (.slice 35 (.ptr 1)) .ro x6), (7, .v (.int .i64) .ro x7), (8, .v (.int .i64) .ro x8)], [], []⟩ : ST cx)
def u2 (k n1 : Nat) : T2 := fun x3 x6 x7 x8 => uK (run E h k c7) (s2 x3 x6 x7 x8) (K15 k n1)
abbrev l2 (k n1 : Nat) : T2 := fun x3 x6 x7 x8 => cutK (run E h k c7) (s2 x3 x6 x7 x8) (K15 k n1)
abbrev s3 := fun x3 => (⟨[(3, .v (.int .i64) .ro x3)], [], []⟩ : ST cx)
def u3 (k : Nat) : T3 := fun x3 => uK (run E h k c2) (s3 x3) (K5 k)
abbrev l3 (k : Nat) : T3 := fun x3 => cutK (run E h k c2) (s3 x3) (K5 k)
abbrev s1 := fun x3 x6 x7 x8 => (⟨[(3, .v (.int .i64) .ro x3), (6, .v (.slice 35 (.ptr 1)) .ro x6), (7, .v (.int .i64) .ro x7), (8, .v (.int .i64) .ro x8)], [], []⟩ : ST cx)
def u1 (k n1 : Nat) : T1 := fun x3 x6 x7 x8 => uK (loopL E h k c4 (K9 k) n1) (s1 x3 x6 x7 x8) ()
abbrev l1 (k n1 : Nat) : T1 := fun x3 x6 x7 x8 => cutK (loopL E h k c4 (K9 k) n1) (s1 x3 x6 x7 x8) ()
def u0 (k : Nat) : T0 := fun x0 => runOf (S := cx) E h k Try.f40 [.val (.slice 35 (.ptr 1))] (.int .i64) .ro (x0, ())
def t2 (f1 : T1) : T2 := fun x3 x6 x7 x8 => (f1 x3 x6 x7 (w64 (x8 + (1 : Int))))
theorem e2 (k n1 : Nat) : u2 k n1 = t2 (l1 k n1) := by kernel_rfl
theorem g2 (k n1 : Nat) : l2 k n1 = u2 k n1 := funext fun _ => funext fun _ => funext fun _ => funext fun _ => cut_u _ _ _
def p2 (k : Nat) (a1 : T1) : T2 := t2 a1
theorem o2 (k n1 : Nat) (a1 : T1) (h1 : l1 k n1 = a1) : l2 k n1 = p2 k a1 := (Eq.trans (b := u2 k n1) (g2 k n1) (Eq.trans (b := t2 (l1 k n1)) (e2 k n1) (Eq.trans (b := t2 a1) (congrArg t2 h1) (by kernel_rfl))))
def t3 : T3 := fun x3 => (some (x3, ()))
theorem e3 (k : Nat) : u3 k = t3 := by kernel_rfl
theorem g3 (k : Nat) : l3 k = u3 k := funext fun _ => cut_u _ _ _
def p3 (k : Nat) : T3 := t3
theorem o3 (k : Nat) : l3 k = p3 k := (Eq.trans (b := u3 k) (g3 k) (Eq.trans (b := t3) (e3 k) (by kernel_rfl)))
def t1 (f2 : T2) (f3 : T3) : T1 := fun x3 x6 x7 x8 => (iteB (decide (x8 < x7)) (wnR x8 (List.length x6) fun q1 => (iteB (!(Option.isNone (List.getD x6 q1 none))) (bindR (List.getD x6 q1 none) fun z2 => (f2 (w64 (x3 + (out1 z2).2.2.2.2.1)) x6 x7 x8)) (f2 x3 x6 x7 x8))) (f3 x3))
theorem e1 (k n1 : Nat) : u1 k (n1 + 1) = t1 (l2 k n1) (l3 k) := by kernel_rfl
theorem g1 (k n1 : Nat) : l1 k (n1 + 1) = u1 k (n1 + 1) := funext fun _ => funext fun _ => funext fun _ => funext fun _ => cut_u _ _ _
def p1 (k : Nat) : Nat → T1
  | 0 => fun _ _ _ _ => none
  | n1 + 1 => t1 (p2 k (p1 k n1)) (p3 k)
theorem o1 (k : Nat) : ∀ n1, l1 k n1 = p1 k n1 := by
  intro n1
  induction n1 with
  | zero => kernel_rfl
  | succ n1 ih => exact (Eq.trans (b := u1 k (n1 + 1)) (g1 k n1) (Eq.trans (b := t1 (l2 k n1) (l3 k)) (e1 k n1) (Eq.trans (b := t1 (p2 k (p1 k n1)) (p3 k)) (congr (congrArg t1 (o2 k n1 (p1 k n1) ih)) (o3 k)) (by kernel_rfl))))
def t0 (f1 : T1) : T0 := fun x0 => (f1 (0 : Int) x0 ((List.length x0 : Nat) : Int) (0 : Int))
theorem e0 (k : Nat) : u0 k = t0 (l1 k k) := by kernel_rfl
def p0 (k : Nat) : T0 := t0 (p1 k k)
theorem o0 (k : Nat) : u0 k = p0 k := (Eq.trans (b := t0 (l1 k k)) (e0 k) (Eq.trans (b := t0 (p1 k k)) (congrArg t0 (o1 k k)) (by kernel_rfl)))
end Q57
def s_Q57 (a : (List (Option N1)) × Unit) : Option (Int × Unit) := Q57.p0 fuel a.1
def F_Q57 : FSpec cx.toNm := { ps := [.val (.slice 35 (.ptr 1))], nres := 1, rt := (.int .i64), rm := .ro, f := s_Q57 }
theorem w_Q57 (a : (List (Option N1)) × Unit) : runOf (S := cx) Q57.E Q57.h fuel Try.f40 F_Q57.ps F_Q57.rt F_Q57.rm a = F_Q57.f a := Eq.trans (b := Q57.u0 fuel a.1) (by kernel_rfl) (Eq.trans (b := Q57.p0 fuel a.1) (congrFun (Q57.o0 fuel) a.1) (by kernel_rfl))
theorem ok_Q57 : FnOk Try.prog F_Q57 40 := fn_of (hn := Q57.h) (E := Q57.E) cxOk (tysT _ _) fs_nil follows Try.func40 (by kernel_rfl) (fun a r h => ⟨fuel, Eq.trans (w_Q57 a) h⟩)
namespace Q58
def E : Env cx := { tys := tys, fs := fsOf [(40, F_Q57), (66, F_Q54), (67, F_Q56)] }
abbrev R := Option (Bool × Unit)
abbrev C := Exit → ST cx → R
noncomputable def b : Code := bodyC Try.f41
def h : Hint := { vs := [0, 1, 2, 4, 5], nil := [], cuts := [(4, ([1, 2, 68], [2]), ([1, 2], [2])), (5, ([1, 2], [2]), ([1, 2], [2]))], ret := ([4], [2, 5]), ords := [] }
def K0 : C := fin (S := cx) E Try.f41.results.toList .bool .ro [] []
def c0 : Code := subC b [1]
def K1 (k : Nat) : C := outD h c0 K0
def c1 : Code := subC b [1, 1]
def K3 (k : Nat) : C := outD h c1 (K1 k)
def c4 : Code := subC b [1, 1, 1]
def K9 (k : Nat) : C := outD h c4 (K3 k)
def K10 (k : Nat) : C := seqC E h k c4 (K3 k)
def c5 : Code := subC b [1, 1, 0, 1]
def K11 (k : Nat) : C := outD h c5 (K10 k)
abbrev T2 := (Option N1) → D0 → R
abbrev T1 := (Option N1) → Bool → D0 → R
abbrev T0 := D0 → (Option N1) → R
abbrev s2 := fun x1 m2 => (⟨[(1, .v (.ptr 1) .ro x1), (2, .addr (.mem 2) [])], [], [(2, ⟨ty0, .ro, m2⟩)]⟩ : ST cx)
def u2 (k : Nat) : T2 := fun x1 m2 => uK (run E h k c4) (s2 x1 m2) (K9 k)
abbrev l2 (k : Nat) : T2 := fun x1 m2 => cutK (run E h k c4) (s2 x1 m2) (K9 k)
abbrev s1 := fun x1 x68 m2 => (⟨[(1, .v (.ptr 1) .ro x1), (2, .addr (.mem 2) []), (68, .v .bool .ro x68)], [], [(2, ⟨ty0, .ro, m2⟩)]⟩ : ST cx)
def u1 (k : Nat) : T1 := fun x1 x68 m2 => uK (run E h k c5) (s1 x1 x68 m2) (K11 k)
abbrev l1 (k : Nat) : T1 := fun x1 x68 m2 => cutK (run E h k c5) (s1 x1 x68 m2) (K11 k)
def u0 (k : Nat) : T0 := fun x0 x1 => runOf (S := cx) E h k Try.f41 [.val ty0, .val (.ptr 1)] .bool .ro (x0, x1, ())
def t2 : T2 := fun x1 m2 => (bindR x1 fun z11 => (wnR ((out1 z11).2.1) (List.length m2.2.2.2.1) fun q12 => (bindR x1 fun z13 => (iteB (decide ((out1 z13).1 = (List.getD m2.2.2.2.1 q12 ((0 : Int), ([] : List Int))).1)) (bindR x1 fun z14 => (bindR x1 fun z15 => (bindR (s_Q57 ((out1 z15).2.2.2.1, ())) fun r16 => (iteB (decide ((out1 z14).2.2.2.2.1 = r16.1)) (bindR x1 fun z17 => (bindR (s_Q56 ((out1 z17).2.2.2.1, ((List.getD m2.2.2.2.1 q12 ((0 : Int), ([] : List Int))).2, ((), ())))) fun r18 => (some (r18.1, ())))) (some (false, ())))))) (some (false, ()))))))
theorem e2 (k : Nat) : u2 k = t2 := by kernel_rfl
theorem g2 (k : Nat) : l2 k = u2 k := funext fun _ => funext fun _ => cut_u _ _ _
def p2 (k : Nat) : T2 := t2
theorem o2 (k : Nat) : l2 k = p2 k := (Eq.trans (b := u2 k) (g2 k) (Eq.trans (b := t2) (e2 k) (by kernel_rfl)))
def t1 (f2 : T2) : T1 := fun x1 x68 m2 => (iteB x68 (some (false, ())) (f2 x1 m2))
theorem e1 (k : Nat) : u1 k = t1 (l2 k) := by kernel_rfl
theorem g1 (k : Nat) : l1 k = u1 k := funext fun _ => funext fun _ => funext fun _ => cut_u _ _ _
def p1 (k : Nat) : T1 := t1 (p2 k)
theorem o1 (k : Nat) : l1 k = p1 k := (Eq.trans (b := u1 k) (g1 k) (Eq.trans (b := t1 (l2 k)) (e1 k) (Eq.trans (b := t1 (p2 k)) (congrArg t1 (o2 k)) (by kernel_rfl))))
def t0 (f1 : T1) : T0 := fun x0 x1 => (bindR x1 fun z1 => (iteB (decide ((out1 z1).2.1 = (-1 : Int))) (bindR x1 fun z2 => (iteB (decide ((0 : Int) ≤ (out1 z2).1)) (bindR x1 fun z3 => (iteB (decide ((out1 z3).1 < x0.2.1)) (bindR x1 fun z4 => (iteB (decide (((List.length (out1 z4).2.2.2.1 : Nat) : Int) = (0 : Int))) (bindR x1 fun z5 => (some ((decide ((out1 z5).2.2.2.2.1 = (1 : Int))), ()))) (some (false, ())))) (some (false, ())))) (some (false, ())))) (bindR x1 fun z6 => (iteB (decide ((out1 z6).2.1 < (0 : Int))) (f1 x1 true x0) (bindR x1 fun z7 => (iteB (decide (((List.length x0.2.2.2.1 : Nat) : Int) ≤ (out1 z7).2.1)) (f1 x1 true x0) (bindR x1 fun z8 => (iteB (!(decide ((out1 z8).2.2.1 = ([] : List UInt8)))) (f1 x1 true x0) (bindR x1 fun z9 => (bindR (s_Q54 ((out1 z9).2.2.2.1, (none, ()))) fun r10 => (f1 x1 r10.1 x0)))))))))))
theorem e0 (k : Nat) : u0 k = t0 (l1 k) := by kernel_rfl
def p0 (k : Nat) : T0 := t0 (p1 k)
theorem o0 (k : Nat) : u0 k = p0 k := (Eq.trans (b := t0 (l1 k)) (e0 k) (Eq.trans (b := t0 (p1 k)) (congrArg t0 (o1 k)) (by kernel_rfl)))
end Q58
def s_Q58 (a : D0 × ((Option N1) × Unit)) : Option (Bool × Unit) := Q58.p0 fuel a.1 a.2.1
def F_Q58 : FSpec cx.toNm := { ps := [.val ty0, .val (.ptr 1)], nres := 1, rt := .bool, rm := .ro, f := s_Q58 }
theorem w_Q58 (a : D0 × ((Option N1) × Unit)) : runOf (S := cx) Q58.E Q58.h fuel Try.f41 F_Q58.ps F_Q58.rt F_Q58.rm a = F_Q58.f a := Eq.trans (b := Q58.u0 fuel a.1 a.2.1) (by kernel_rfl) (Eq.trans (b := Q58.p0 fuel a.1 a.2.1) (congrFun (congrFun (Q58.o0 fuel) a.1) a.2.1) (by kernel_rfl))
theorem ok_Q58 : FnOk Try.prog F_Q58 41 := fn_of (hn := Q58.h) (E := Q58.E) cxOk (tysT _ _) (fs_cons ok_Q57 (fs_cons ok_Q54 (fs_cons ok_Q56 fs_nil))) follows Try.func41 (by kernel_rfl) (fun a r h => ⟨fuel, Eq.trans (w_Q58 a) h⟩)
namespace Q59
def E : Env cx := { tys := tys, fs := fsOf [(41, F_Q58)] }
abbrev R := Option (Bool × Unit)
abbrev C := Exit → ST cx → R
noncomputable def b : Code := bodyC Try.f43
def h : Hint := { vs := [0, 1, 3], nil := [], cuts := [], ret := ([3], []), ords := [] }
abbrev T0 := (Option N1) → D0 → R
def u0 (k : Nat) : T0 := fun x0 x1 => runOf (S := cx) E h k Try.f43 [.val (.ptr 1), .val (.box ty0)] .bool .ro (x0, x1, ())
def t0 : T0 := fun x0 x1 => (bindR (s_Q58 (x1, (x0, ()))) fun r1 => (some (r1.1, ())))
theorem e0 (k : Nat) : u0 k = t0 := by kernel_rfl
def p0 (k : Nat) : T0 := t0
theorem o0 (k : Nat) : u0 k = p0 k := (Eq.trans (b := t0) (e0 k) (by kernel_rfl))
end Q59
def s_Q59 (a : (Option N1) × (D0 × Unit)) : Option (Bool × Unit) := Q59.p0 fuel a.1 a.2.1
def F_Q59 : FSpec cx.toNm := { ps := [.val (.ptr 1), .val (.box ty0)], nres := 1, rt := .bool, rm := .ro, f := s_Q59 }
theorem w_Q59 (a : (Option N1) × (D0 × Unit)) : runOf (S := cx) Q59.E Q59.h fuel Try.f43 F_Q59.ps F_Q59.rt F_Q59.rm a = F_Q59.f a := Eq.trans (b := Q59.u0 fuel a.1 a.2.1) (by kernel_rfl) (Eq.trans (b := Q59.p0 fuel a.1 a.2.1) (congrFun (congrFun (Q59.o0 fuel) a.1) a.2.1) (by kernel_rfl))
theorem ok_Q59 : FnOk Try.prog F_Q59 43 := fn_of (hn := Q59.h) (E := Q59.E) cxOk (tysT _ _) (fs_cons ok_Q58 fs_nil) follows Try.func43 (by kernel_rfl) (fun a r h => ⟨fuel, Eq.trans (w_Q59 a) h⟩)
def Fr_Q60 (f : ((Option N1) × ((D0 × Unit) × Unit)) → Option (Bool × Unit)) : FSpec cx.toNm := { ps := [.val (.ptr 1), .val (.clo 43 (.pair (.box ty0) .unit))], nres := 1, rt := .bool, rm := .ro, f := f }
def Fr_Q61 (f : ((List (Option N1)) × (((D0 × Unit) × Unit) × Unit)) → Option (Bool × Unit)) : FSpec cx.toNm := { ps := [.val (.slice 35 (.ptr 1)), .val (.clo 69 (.pair (.box (.clo 43 (.pair (.box ty0) .unit))) .unit))], nres := 1, rt := .bool, rm := .ro, f := f }
def Fr_Q62 (f : ((List (Option N1)) × (((D0 × Unit) × Unit) × Unit)) → Option (Int × Unit)) : FSpec cx.toNm := { ps := [.val (.slice 35 (.ptr 1)), .val (.clo 69 (.pair (.box (.clo 43 (.pair (.box ty0) .unit))) .unit))], nres := 1, rt := (.int .i64), rm := .ro, f := f }
def Fr_Q63 (f : ((Option N1) × ((D0 × Unit) × Unit)) → Option (Bool × Unit)) : FSpec cx.toNm := { ps := [.val (.ptr 1), .val (.box (.clo 43 (.pair (.box ty0) .unit)))], nres := 1, rt := .bool, rm := .ro, f := f }
namespace Q60
def E (sf_Q60 : Y_Q60) (sf_Q61 : Y_Q61) (sf_Q62 : Y_Q62) (sf_Q63 : Y_Q63) : Env cx := { tys := tys, fs := fsOf [(37, (Fr_Q61 sf_Q61)), (43, F_Q59)], wr := true }
abbrev R := Option (Bool × Unit)
abbrev C := Exit → ST cx → R
noncomputable def b : Code := bodyC Try.f42
def h : Hint := { vs := [0, 1, 3, 4], nil := [], cuts := [], ret := ([4], [3]), ords := [], fns := [(17, [true])] }
abbrev T0 := (Option N1) → (D0 × Unit) → R
def u0 (sf_Q60 : Y_Q60) (sf_Q61 : Y_Q61) (sf_Q62 : Y_Q62) (sf_Q63 : Y_Q63) (k : Nat) : T0 := fun x0 x1 => runOf (S := cx) (E sf_Q60 sf_Q61 sf_Q62 sf_Q63) h k Try.f42 [.val (.ptr 1), .val (.clo 43 (.pair (.box ty0) .unit))] .bool .ro (x0, x1, ())
def t0 (sf_Q60 : Y_Q60) (sf_Q61 : Y_Q61) (sf_Q62 : Y_Q62) (sf_Q63 : Y_Q63) : T0 := fun x0 x1 => (iteB (!(Option.isNone x0)) (bindR (s_Q59 (x0, (x1.1, ()))) fun r1 => (iteB r1.1 (bindR x0 fun z2 => (bindR (sf_Q61 ((out1 z2).2.2.2.1, ((x1, ()), ()))) fun r3 => (some ((notB r3.1), ())))) (some (false, ())))) (some (false, ())))
theorem e0 (sf_Q60 : Y_Q60) (sf_Q61 : Y_Q61) (sf_Q62 : Y_Q62) (sf_Q63 : Y_Q63) (k : Nat) : u0 sf_Q60 sf_Q61 sf_Q62 sf_Q63 k = t0 sf_Q60 sf_Q61 sf_Q62 sf_Q63 := by kernel_rfl
def p0 (sf_Q60 : Y_Q60) (sf_Q61 : Y_Q61) (sf_Q62 : Y_Q62) (sf_Q63 : Y_Q63) (k : Nat) : T0 := t0 sf_Q60 sf_Q61 sf_Q62 sf_Q63
theorem o0 (sf_Q60 : Y_Q60) (sf_Q61 : Y_Q61) (sf_Q62 : Y_Q62) (sf_Q63 : Y_Q63) (k : Nat) : u0 sf_Q60 sf_Q61 sf_Q62 sf_Q63 k = p0 sf_Q60 sf_Q61 sf_Q62 sf_Q63 k := (Eq.trans (b := t0 sf_Q60 sf_Q61 sf_Q62 sf_Q63) (e0 sf_Q60 sf_Q61 sf_Q62 sf_Q63 k) (by kernel_rfl))
end Q60
namespace Q61
def E (sf_Q60 : Y_Q60) (sf_Q61 : Y_Q61) (sf_Q62 : Y_Q62) (sf_Q63 : Y_Q63) : Env cx := { tys := tys, fs := fsOf [(65, (Fr_Q62 sf_Q62))] }
abbrev R := Option (Bool × Unit)
abbrev C := Exit → ST cx → R
noncomputable def b : Code := bodyC Try.f37
def h : Hint := { vs := [0, 1, 4], nil := [], cuts := [], ret := ([4], []), ords := [] }
abbrev T0 := (List (Option N1)) → ((D0 × Unit) × Unit) → R
def u0 (sf_Q60 : Y_Q60) (sf_Q61 : Y_Q61) (sf_Q62 : Y_Q62) (sf_Q63 : Y_Q63) (k : Nat) : T0 := fun x0 x1 => runOf (S := cx) (E sf_Q60 sf_Q61 sf_Q62 sf_Q63) h k Try.f37 [.val (.slice 35 (.ptr 1)), .val (.clo 69 (.pair (.box (.clo 43 (.pair (.box ty0) .unit))) .unit))] .bool .ro (x0, x1, ())
def t0 (sf_Q60 : Y_Q60) (sf_Q61 : Y_Q61) (sf_Q62 : Y_Q62) (sf_Q63 : Y_Q63) : T0 := fun x0 x1 => (bindR (sf_Q62 (x0, (x1, ()))) fun r1 => (some ((decide ((0 : Int) ≤ r1.1)), ())))
theorem e0 (sf_Q60 : Y_Q60) (sf_Q61 : Y_Q61) (sf_Q62 : Y_Q62) (sf_Q63 : Y_Q63) (k : Nat) : u0 sf_Q60 sf_Q61 sf_Q62 sf_Q63 k = t0 sf_Q60 sf_Q61 sf_Q62 sf_Q63 := by kernel_rfl
def p0 (sf_Q60 : Y_Q60) (sf_Q61 : Y_Q61) (sf_Q62 : Y_Q62) (sf_Q63 : Y_Q63) (k : Nat) : T0 := t0 sf_Q60 sf_Q61 sf_Q62 sf_Q63
theorem o0 (sf_Q60 : Y_Q60) (sf_Q61 : Y_Q61) (sf_Q62 : Y_Q62) (sf_Q63 : Y_Q63) (k : Nat) : u0 sf_Q60 sf_Q61 sf_Q62 sf_Q63 k = p0 sf_Q60 sf_Q61 sf_Q62 sf_Q63 k := (Eq.trans (b := t0 sf_Q60 sf_Q61 sf_Q62 sf_Q63) (e0 sf_Q60 sf_Q61 sf_Q62 sf_Q63 k) (by kernel_rfl))
end Q61
namespace Q62
def E (sf_Q60 : Y_Q60) (sf_Q61 : Y_Q61) (sf_Q62 : Y_Q62) (sf_Q63 : Y_Q63) : Env cx := { tys := tys, fs := fsOf [(69, (Fr_Q63 sf_Q63))] }
abbrev R := Option (Int × Unit)
abbrev C := Exit → ST cx → R
noncomputable def b : Code := bodyC Try.f65
def h : Hint := { vs := [0, 1, 4, 5, 7, 8], nil := [], cuts := [(2, ([0, 1, 7, 8], []), ([], [])), (7, ([], []), ([], []))], ret := ([4], []), ords := [] }
def K0 (sf_Q60 : Y_Q60) (sf_Q61 : Y_Q61) (sf_Q62 : Y_Q62) (sf_Q63 : Y_Q63) : C := fin (S := cx) (E sf_Q60 sf_Q61 sf_Q62 sf_Q63) Try.f65.results.toList (.int .i64) .ro [] []
def c0 : Code := subC b [1]
def K1 (sf_Q60 : Y_Q60) (sf_Q61 : Y_Q61) (sf_Q62 : Y_Q62) (sf_Q63 : Y_Q63) (k : Nat) : C := outD h c0 (K0 sf_Q60 sf_Q61 sf_Q62 sf_Q63)
def c1 : Code := subC b [1, 1]
def K3 (sf_Q60 : Y_Q60) (sf_Q61 : Y_Q61) (sf_Q62 : Y_Q62) (sf_Q63 : Y_Q63) (k : Nat) : C := outD h c1 (K1 sf_Q60 sf_Q61 sf_Q62 sf_Q63 k)
def K4 (sf_Q60 : Y_Q60) (sf_Q61 : Y_Q61) (sf_Q62 : Y_Q62) (sf_Q63 : Y_Q63) (k : Nat) : C := seqC (E sf_Q60 sf_Q61 sf_Q62 sf_Q63) h k c1 (K1 sf_Q60 sf_Q61 sf_Q62 sf_Q63 k)
def c2 : Code := subC b [1, 0, 1]
def K5 (sf_Q60 : Y_Q60) (sf_Q61 : Y_Q61) (sf_Q62 : Y_Q62) (sf_Q63 : Y_Q63) (k : Nat) : C := outD h c2 (K4 sf_Q60 sf_Q61 sf_Q62 sf_Q63 k)
def K7 (sf_Q60 : Y_Q60) (sf_Q61 : Y_Q61) (sf_Q62 : Y_Q62) (sf_Q63 : Y_Q63) (k : Nat) : C := blockK 0 (K5 sf_Q60 sf_Q61 sf_Q62 sf_Q63 k)
def c3 : Code := subC b [1, 0, 1, 0, 0]
abbrev T2 := R
abbrev T1 := (List (Option N1)) → ((D0 × Unit) × Unit) → Int → Int → R
abbrev T0 := (List (Option N1)) → ((D0 × Unit) × Unit) → R
abbrev s2 : ST cx := (⟨[], [], []⟩ : ST cx)
def u2 (sf_Q60 : Y_Q60) (sf_Q61 : Y_Q61) (sf_Q62 : Y_Q62) (sf_Q63 : Y_Q63) (k : Nat) : T2 := uK (run (E sf_Q60 sf_Q61 sf_Q62 sf_Q63) h k c1) s2 (K3 sf_Q60 sf_Q61 sf_Q62 sf_Q63 k)
abbrev l2 (sf_Q60 : Y_Q60) (sf_Q61 : Y_Q61) (sf_Q62 : Y_Q62) (sf_Q63 : Y_Q63) (k : Nat) : T2 := cutK (run (E sf_Q60 sf_Q61 sf_Q62 sf_Q63) h k c1) s2 (K3 sf_Q60 sf_Q61 sf_Q62 sf_Q63 k)
abbrev s1 := fun x0 x1 x7 x8 => (⟨[(0, .v (.slice 35 (.ptr 1)) .ro x0), (1, .v (.clo 69 (.pair (.box (.clo 43 (.pair (.box ty0) .unit))) .unit)) .ro x1), (7, .v (.int .i64) .ro x7), (8, .v (.int .i64) .ro x8)], [], []⟩ : ST cx)
def u1 (sf_Q60 : Y_Q60) (sf_Q61 : Y_Q61) (sf_Q62 : Y_Q62) (sf_Q63 : Y_Q63) (k n1 : Nat) : T1 := fun x0 x1 x7 x8 => uK (loopL (E sf_Q60 sf_Q61 sf_Q62 sf_Q63) h k c3 (K7 sf_Q60 sf_Q61 sf_Q62 sf_Q63 k) n1) (s1 x0 x1 x7 x8) ()
abbrev l1 (sf_Q60 : Y_Q60) (sf_Q61 : Y_Q61) (sf_Q62 : Y_Q62) (sf_Q63 : Y_Q63) (k n1 : Nat) : T1 := fun x0 x1 x7 x8 => cutK (loopL (E sf_Q60 sf_Q61 sf_Q62 sf_Q63) h k c3 (K7 sf_Q60 sf_Q61 sf_Q62 sf_Q63 k) n1) (s1 x0 x1 x7 x8) ()
def u0 (sf_Q60 : Y_Q60) (sf_Q61 : Y_Q61) (sf_Q62 : Y_Q62) (sf_Q63 : Y_Q63) (k : Nat) : T0 := fun x0 x1 => runOf (S := cx) (E sf_Q60 sf_Q61 sf_Q62 sf_Q63) h k Try.f65 [.val (.slice 35 (.ptr 1)), .val (.clo 69 (.pair (.box (.clo 43 (.pair (.box ty0) .unit))) .unit))] (.int .i64) .ro (x0, x1, ())
def t2 (sf_Q60 : Y_Q60) (sf_Q61 : Y_Q61) (sf_Q62 : Y_Q62) (sf_Q63 : Y_Q63) : T2 := 
  (some ((-1 : Int), ()))
theorem e2 (sf_Q60 : Y_Q60) (sf_Q61 : Y_Q61) (sf_Q62 : Y_Q62) (sf_Q63 : Y_Q63) (k : Nat) : u2 sf_Q60 sf_Q61 sf_Q62 sf_Q63 k = t2 sf_Q60 sf_Q61 sf_Q62 sf_Q63 := by kernel_rfl
theorem g2 (sf_Q60 : Y_Q60) (sf_Q61 : Y_Q61) (sf_Q62 : Y_Q62) (sf_Q63 : Y_Q63) (k : Nat) : l2 sf_Q60 sf_Q61 sf_Q62 sf_Q63 k = u2 sf_Q60 sf_Q61 sf_Q62 sf_Q63 k := cut_u _ _ _
def p2 (sf_Q60 : Y_Q60) (sf_Q61 : Y_Q61) (sf_Q62 : Y_Q62) (sf_Q63 : Y_Q63) (k : Nat) : T2 := t2 sf_Q60 sf_Q61 sf_Q62 sf_Q63
theorem o2 (sf_Q60 : Y_Q60) (sf_Q61 : Y_Q61) (sf_Q62 : Y_Q62) (sf_Q63 : Y_Q63) (k : Nat) : l2 sf_Q60 sf_Q61 sf_Q62 sf_Q63 k = p2 sf_Q60 sf_Q61 sf_Q62 sf_Q63 k := (Eq.trans (b := u2 sf_Q60 sf_Q61 sf_Q62 sf_Q63 k) (g2 sf_Q60 sf_Q61 sf_Q62 sf_Q63 k) (Eq.trans (b := t2 sf_Q60 sf_Q61 sf_Q62 sf_Q63) (e2 sf_Q60 sf_Q61 sf_Q62 sf_Q63 k) (by kernel_rfl)))
def t1 (sf_Q60 : Y_Q60) (sf_Q61 : Y_Q61) (sf_Q62 : Y_Q62) (sf_Q63 : Y_Q63) (f1 : T1) (f2 : T2) : T1 := fun x0 x1 x7 x8 => (iteB (decide (x8 < x7)) (wnR x8 (List.length x0) fun q1 => (bindR (sf_Q63 ((List.getD x0 q1 none), (x1.1, ()))) fun r2 => (iteB r2.1 (some (x8, ())) (f1 x0 x1 x7 (w64 (x8 + (1 : Int))))))) f2)
theorem e1 (sf_Q60 : Y_Q60) (sf_Q61 : Y_Q61) (sf_Q62 : Y_Q62) (sf_Q63 : Y_Q63) (k n1 : Nat) : u1 sf_Q60 sf_Q61 sf_Q62 sf_Q63 k (n1 + 1) = t1 sf_Q60 sf_Q61 sf_Q62 sf_Q63 (l1 sf_Q60 sf_Q61 sf_Q62 sf_Q63 k n1) (l2 sf_Q60 sf_Q61 sf_Q62 sf_Q63 k) := by kernel_rfl
theorem g1 (sf_Q60 : Y_Q60) (sf_Q61 : Y_Q61) (sf_Q62 : Y_Q62) (sf_Q63 : Y_Q63) (k n1 : Nat) : l1 sf_Q60 sf_Q61 sf_Q62 sf_Q63 k (n1 + 1) = u1 sf_Q60 sf_Q61 sf_Q62 sf_Q63 k (n1 + 1) := funext fun _ => funext fun _ => funext fun _ => funext fun _ => cut_u _ _ _
def p1 (sf_Q60 : Y_Q60) (sf_Q61 : Y_Q61) (sf_Q62 : Y_Q62) (sf_Q63 : Y_Q63) (k : Nat) : Nat → T1
  | 0 => fun _ _ _ _ => none
  | n1 + 1 => t1 sf_Q60 sf_Q61 sf_Q62 sf_Q63 (p1 sf_Q60 sf_Q61 sf_Q62 sf_Q63 k n1) (p2 sf_Q60 sf_Q61 sf_Q62 sf_Q63 k)
theorem o1 (sf_Q60 : Y_Q60) (sf_Q61 : Y_Q61) (sf_Q62 : Y_Q62) (sf_Q63 : Y_Q63) (k : Nat) : ∀ n1, l1 sf_Q60 sf_Q61 sf_Q62 sf_Q63 k n1 = p1 sf_Q60 sf_Q61 sf_Q62 sf_Q63 k n1 := by
  intro n1
  induction n1 with
  | zero => kernel_rfl
  | succ n1 ih => exact (Eq.trans (b := u1 sf_Q60 sf_Q61 sf_Q62 sf_Q63 k (n1 + 1)) (g1 sf_Q60 sf_Q61 sf_Q62 sf_Q63 k n1) (Eq.trans (b := t1 sf_Q60 sf_Q61 sf_Q62 sf_Q63 (l1 sf_Q60 sf_Q61 sf_Q62 sf_Q63 k n1) (l2 sf_Q60 sf_Q61 sf_Q62 sf_Q63 k)) (e1 sf_Q60 sf_Q61 sf_Q62 sf_Q63 k n1) (Eq.trans (b := t1 sf_Q60 sf_Q61 sf_Q62 sf_Q63 (p1 sf_Q60 sf_Q61 sf_Q62 sf_Q63 k n1) (p2 sf_Q60 sf_Q61 sf_Q62 sf_Q63 k)) (congr (congrArg (t1 sf_Q60 sf_Q61 sf_Q62 sf_Q63) ih) (o2 sf_Q60 sf_Q61 sf_Q62 sf_Q63 k)) (by kernel_rfl))))
def t0 (sf_Q60 : Y_Q60) (sf_Q61 : Y_Q61) (sf_Q62 : Y_Q62) (sf_Q63 : Y_Q63) (f1 : T1) : T0 := fun x0 x1 => (f1 x0 x1 ((List.length x0 : Nat) : Int) (0 : Int))
theorem e0 (sf_Q60 : Y_Q60) (sf_Q61 : Y_Q61) (sf_Q62 : Y_Q62) (sf_Q63 : Y_Q63) (k : Nat) : u0 sf_Q60 sf_Q61 sf_Q62 sf_Q63 k = t0 sf_Q60 sf_Q61 sf_Q62 sf_Q63 (l1 sf_Q60 sf_Q61 sf_Q62 sf_Q63 k k) := by kernel_rfl
def p0 (sf_Q60 : Y_Q60) (sf_Q61 : Y_Q61) (sf_Q62 : Y_Q62) (sf_Q63 : Y_Q63) (k : Nat) : T0 := t0 sf_Q60 sf_Q61 sf_Q62 sf_Q63 (p1 sf_Q60 sf_Q61 sf_Q62 sf_Q63 k k)
theorem o0 (sf_Q60 : Y_Q60) (sf_Q61 : Y_Q61) (sf_Q62 : Y_Q62) (sf_Q63 : Y_Q63) (k : Nat) : u0 sf_Q60 sf_Q61 sf_Q62 sf_Q63 k = p0 sf_Q60 sf_Q61 sf_Q62 sf_Q63 k := (Eq.trans (b := t0 sf_Q60 sf_Q61 sf_Q62 sf_Q63 (l1 sf_Q60 sf_Q61 sf_Q62 sf_Q63 k k)) (e0 sf_Q60 sf_Q61 sf_Q62 sf_Q63 k) (Eq.trans (b := t0 sf_Q60 sf_Q61 sf_Q62 sf_Q63 (p1 sf_Q60 sf_Q61 sf_Q62 sf_Q63 k k)) (congrArg (t0 sf_Q60 sf_Q61 sf_Q62 sf_Q63) (o1 sf_Q60 sf_Q61 sf_Q62 sf_Q63 k k)) (by kernel_rfl)))
end Q62
namespace Q63
def E (sf_Q60 : Y_Q60) (sf_Q61 : Y_Q61) (sf_Q62 : Y_Q62) (sf_Q63 : Y_Q63) : Env cx := { tys := tys, fs := fsOf [(42, (Fr_Q60 sf_Q60))] }
abbrev R := Option (Bool × Unit)
abbrev C := Exit → ST cx → R
noncomputable def b : Code := bodyC Try.f69
def h : Hint := { vs := [0, 1, 3], nil := [], cuts := [], ret := ([3], []), ords := [] }
abbrev T0 := (Option N1) → (D0 × Unit) → R
def u0 (sf_Q60 : Y_Q60) (sf_Q61 : Y_Q61) (sf_Q62 : Y_Q62) (sf_Q63 : Y_Q63) (k : Nat) : T0 := fun x0 x1 => runOf (S := cx) (E sf_Q60 sf_Q61 sf_Q62 sf_Q63) h k Try.f69 [.val (.ptr 1), .val (.box (.clo 43 (.pair (.box ty0) .unit)))] .bool .ro (x0, x1, ())
def t0 (sf_Q60 : Y_Q60) (sf_Q61 : Y_Q61) (sf_Q62 : Y_Q62) (sf_Q63 : Y_Q63) : T0 := fun x0 x1 => (bindR (sf_Q60 (x0, (x1, ()))) fun r1 => (some ((notB r1.1), ())))
theorem e0 (sf_Q60 : Y_Q60) (sf_Q61 : Y_Q61) (sf_Q62 : Y_Q62) (sf_Q63 : Y_Q63) (k : Nat) : u0 sf_Q60 sf_Q61 sf_Q62 sf_Q63 k = t0 sf_Q60 sf_Q61 sf_Q62 sf_Q63 := by kernel_rfl
def p0 (sf_Q60 : Y_Q60) (sf_Q61 : Y_Q61) (sf_Q62 : Y_Q62) (sf_Q63 : Y_Q63) (k : Nat) : T0 := t0 sf_Q60 sf_Q61 sf_Q62 sf_Q63
theorem o0 (sf_Q60 : Y_Q60) (sf_Q61 : Y_Q61) (sf_Q62 : Y_Q62) (sf_Q63 : Y_Q63) (k : Nat) : u0 sf_Q60 sf_Q61 sf_Q62 sf_Q63 k = p0 sf_Q60 sf_Q61 sf_Q62 sf_Q63 k := (Eq.trans (b := t0 sf_Q60 sf_Q61 sf_Q62 sf_Q63) (e0 sf_Q60 sf_Q61 sf_Q62 sf_Q63 k) (by kernel_rfl))
end Q63
mutual
def r_Q60 : Nat → ((Option N1) × ((D0 × Unit) × Unit)) → Option (Bool × Unit)
  | 0, _ => none
  | n + 1, a => Q60.p0 (r_Q60 n) (r_Q61 n) (r_Q62 n) (r_Q63 n) fuel a.1 a.2.1
def r_Q61 : Nat → ((List (Option N1)) × (((D0 × Unit) × Unit) × Unit)) → Option (Bool × Unit)
  | 0, _ => none
  | n + 1, a => Q61.p0 (r_Q60 n) (r_Q61 n) (r_Q62 n) (r_Q63 n) fuel a.1 a.2.1
def r_Q62 : Nat → ((List (Option N1)) × (((D0 × Unit) × Unit) × Unit)) → Option (Int × Unit)
  | 0, _ => none
  | n + 1, a => Q62.p0 (r_Q60 n) (r_Q61 n) (r_Q62 n) (r_Q63 n) fuel a.1 a.2.1
def r_Q63 : Nat → ((Option N1) × ((D0 × Unit) × Unit)) → Option (Bool × Unit)
  | 0, _ => none
  | n + 1, a => Q63.p0 (r_Q60 n) (r_Q61 n) (r_Q62 n) (r_Q63 n) fuel a.1 a.2.1
end
theorem okr_Q60 : ∀ n, FnOk Try.prog (Fr_Q60 (r_Q60 n)) 42 ∧ FnOk Try.prog (Fr_Q61 (r_Q61 n)) 37 ∧ FnOk Try.prog (Fr_Q62 (r_Q62 n)) 65 ∧ FnOk Try.prog (Fr_Q63 (r_Q63 n)) 69
  | 0 => ⟨fn_none (fun _ => rfl), fn_none (fun _ => rfl), fn_none (fun _ => rfl), fn_none (fun _ => rfl)⟩
  | n + 1 => ⟨fn_of (F := Fr_Q60 (r_Q60 (n + 1))) (hn := Q60.h) (E := Q60.E (r_Q60 n) (r_Q61 n) (r_Q62 n) (r_Q63 n)) cxOk (tysT _ _) (fs_cons (okr_Q60 n).2.1 (fs_cons ok_Q59 fs_nil)) follows Try.func42 (by kernel_rfl) (fun a r h => ⟨fuel, Eq.trans (c := some r) (congrFun (congrFun (Q60.o0 (r_Q60 n) (r_Q61 n) (r_Q62 n) (r_Q63 n) fuel) a.1) a.2.1) h⟩), fn_of (F := Fr_Q61 (r_Q61 (n + 1))) (hn := Q61.h) (E := Q61.E (r_Q60 n) (r_Q61 n) (r_Q62 n) (r_Q63 n)) cxOk (tysT _ _) (fs_cons (okr_Q60 n).2.2.1 fs_nil) follows Try.func37 (by kernel_rfl) (fun a r h => ⟨fuel, Eq.trans (c := some r) (congrFun (congrFun (Q61.o0 (r_Q60 n) (r_Q61 n) (r_Q62 n) (r_Q63 n) fuel) a.1) a.2.1) h⟩), fn_of (F := Fr_Q62 (r_Q62 (n + 1))) (hn := Q62.h) (E := Q62.E (r_Q60 n) (r_Q61 n) (r_Q62 n) (r_Q63 n)) cxOk (tysT _ _) (fs_cons (okr_Q60 n).2.2.2 fs_nil) follows Try.func65 (by kernel_rfl) (fun a r h => ⟨fuel, Eq.trans (c := some r) (congrFun (congrFun (Q62.o0 (r_Q60 n) (r_Q61 n) (r_Q62 n) (r_Q63 n) fuel) a.1) a.2.1) h⟩), fn_of (F := Fr_Q63 (r_Q63 (n + 1))) (hn := Q63.h) (E := Q63.E (r_Q60 n) (r_Q61 n) (r_Q62 n) (r_Q63 n)) cxOk (tysT _ _) (fs_cons (okr_Q60 n).1 fs_nil) follows Try.func69 (by kernel_rfl) (fun a r h => ⟨fuel, Eq.trans (c := some r) (congrFun (congrFun (Q63.o0 (r_Q60 n) (r_Q61 n) (r_Q62 n) (r_Q63 n) fuel) a.1) a.2.1) h⟩)⟩
def s_Q60 (a : (Option N1) × ((D0 × Unit) × Unit)) : Option (Bool × Unit) := r_Q60 fuel a
def F_Q60 : FSpec cx.toNm := Fr_Q60 s_Q60
theorem ok_Q60 : FnOk Try.prog F_Q60 42 := fun w Z own vs a r h1 h2 h3 h4 => (okr_Q60 fuel).1 w Z own vs a r h1 h2 h3 h4
namespace Q64
def E : Env cx := { tys := tys, fs := fsOf [(36, F_Q48), (42, F_Q60)], wr := true }
abbrev R := Option (Bool × Unit)
abbrev C := Exit → ST cx → R
noncomputable def b : Code := bodyC Try.f19
def h : Hint := { vs := [0, 1, 2, 4], nil := [], cuts := [], ret := ([4], [2]), ords := [], fns := [(9, [true])] }
abbrev T0 := D0 → (Option N1) → R
def u0 (k : Nat) : T0 := fun x0 x1 => runOf (S := cx) E h k Try.f19 [.val ty0, .val (.ptr 1)] .bool .ro (x0, x1, ())
def t0 : T0 := fun x0 x1 => (bindR (s_Q48 (x0, ())) fun r1 => (iteB r1.1 (bindR (s_Q60 (x1, ((x0, ()), ()))) fun r2 => (some (r2.1, ()))) (some (false, ()))))
theorem e0 (k : Nat) : u0 k = t0 := by kernel_rfl
def p0 (k : Nat) : T0 := t0
theorem o0 (k : Nat) : u0 k = p0 k := (Eq.trans (b := t0) (e0 k) (by kernel_rfl))
end Q64
def s_Q64 (a : D0 × ((Option N1) × Unit)) : Option (Bool × Unit) := Q64.p0 fuel a.1 a.2.1
def F_Q64 : FSpec cx.toNm := { ps := [.val ty0, .val (.ptr 1)], nres := 1, rt := .bool, rm := .ro, f := s_Q64 }
theorem w_Q64 (a : D0 × ((Option N1) × Unit)) : runOf (S := cx) Q64.E Q64.h fuel Try.f19 F_Q64.ps F_Q64.rt F_Q64.rm a = F_Q64.f a := Eq.trans (b := Q64.u0 fuel a.1 a.2.1) (by kernel_rfl) (Eq.trans (b := Q64.p0 fuel a.1 a.2.1) (congrFun (congrFun (Q64.o0 fuel) a.1) a.2.1) (by kernel_rfl))
theorem ok_Q64 : FnOk Try.prog F_Q64 19 := fn_of (hn := Q64.h) (E := Q64.E) cxOk (tysT _ _) (fs_cons ok_Q48 (fs_cons ok_Q60 fs_nil)) follows Try.func19 (by kernel_rfl) (fun a r h => ⟨fuel, Eq.trans (w_Q64 a) h⟩)
def Fr_Q65 (f : ((Option N1) × ((Option N1) × Unit)) → Option (Bool × Unit)) : FSpec cx.toNm := { ps := [.val (.ptr 1), .val (.ptr 1)], nres := 1, rt := .bool, rm := .ro, f := f }
namespace Q65
def E (sf_Q65 : Y_Q65) : Env cx := { tys := tys, fs := fsOf [(17, (Fr_Q65 sf_Q65))] }
abbrev R := Option (Bool × Unit)
abbrev C := Exit → ST cx → R
noncomputable def b : Code := bodyC Try.f17
def h : Hint := { vs := [0, 1, 4, 5], nil := [], cuts := [(2, ([0, 1, 11], []), ([0, 1], [])), (3, ([0, 1], []), ([0, 1], [])), (4, ([0, 1, 61], []), ([0, 1], [])), (5, ([0, 1], []), ([0, 1], [])), (6, ([0, 1, 5], []), ([], [])), (10, ([], []), ([], []))], ret := ([4], []), ords := [] }
def K0 (sf_Q65 : Y_Q65) : C := fin (S := cx) (E sf_Q65) Try.f17.results.toList .bool .ro [] []
def c0 : Code := subC b [1]
def K1 (sf_Q65 : Y_Q65) (k : Nat) : C := outD h c0 (K0 sf_Q65)
def c1 : Code := subC b [1, 1]
def K3 (sf_Q65 : Y_Q65) (k : Nat) : C := outD h c1 (K1 sf_Q65 k)
def K4 (sf_Q65 : Y_Q65) (k : Nat) : C := seqC (E sf_Q65) h k c1 (K1 sf_Q65 k)
def c2 : Code := subC b [1, 0, 1]
def K5 (sf_Q65 : Y_Q65) (k : Nat) : C := outD h c2 (K4 sf_Q65 k)
def c4 : Code := subC b [1, 1, 1]
def K9 (sf_Q65 : Y_Q65) (k : Nat) : C := outD h c4 (K3 sf_Q65 k)
def K10 (sf_Q65 : Y_Q65) (k : Nat) : C := seqC (E sf_Q65) h k c4 (K3 sf_Q65 k)
def c5 : Code := subC b [1, 1, 0, 1]
def K11 (sf_Q65 : Y_Q65) (k : Nat) : C := outD h c5 (K10 sf_Q65 k)
def c7 : Code := subC b [1, 1, 1, 1]
def K15 (sf_Q65 : Y_Q65) (k : Nat) : C := outD h c7 (K9 sf_Q65 k)
def K16 (sf_Q65 : Y_Q65) (k : Nat) : C := seqC (E sf_Q65) h k c7 (K9 sf_Q65 k)
def c8 : Code := subC b [1, 1, 1, 0, 1]
def K17 (sf_Q65 : Y_Q65) (k : Nat) : C := outD h c8 (K16 sf_Q65 k)
def K19 (sf_Q65 : Y_Q65) (k : Nat) : C := blockK 0 (K17 sf_Q65 k)
def c9 : Code := subC b [1, 1, 1, 0, 1, 0, 0]
abbrev T6 := R
abbrev T5 := (Option N1) → (Option N1) → Int → R
abbrev T4 := (Option N1) → (Option N1) → R
abbrev T3 := (Option N1) → (Option N1) → Bool → R
abbrev T2 := (Option N1) → (Option N1) → R
abbrev T1 := (Option N1) → (Option N1) → Bool → R
abbrev T0 := (Option N1) → (Option N1) → R
abbrev s6 : ST cx := (⟨[], [], []⟩ : ST cx)
def u6 (sf_Q65 : Y_Q65) (k : Nat) : T6 := uK (run (E sf_Q65) h k c7) s6 (K15 sf_Q65 k)
abbrev l6 (sf_Q65 : Y_Q65) (k : Nat) : T6 := cutK (run (E sf_Q65) h k c7) s6 (K15 sf_Q65 k)
abbrev s5 := fun x0 x1 x5 => (⟨[(0, .v (.ptr 1) .ro x0), (1, .v (.ptr 1) .ro x1), (5, .v (.int .i64) .ro x5)], [], []⟩ : ST cx)
def u5 (sf_Q65 : Y_Q65) (k n5 : Nat) : T5 := fun x0 x1 x5 => uK (loopL (E sf_Q65) h k c9 (K19 sf_Q65 k) n5) (s5 x0 x1 x5) ()
abbrev l5 (sf_Q65 : Y_Q65) (k n5 : Nat) : T5 := fun x0 x1 x5 => cutK (loopL (E sf_Q65) h k c9 (K19 sf_Q65 k) n5) (s5 x0 x1 x5) ()
abbrev s4 := fun x0 x1 => (⟨[(0, .v (.ptr 1) .ro x0), (1, .v (.ptr 1) .ro x1)], [], []⟩ : ST cx)
def u4 (sf_Q65 : Y_Q65) (k : Nat) : T4 := fun x0 x1 => uK (run (E sf_Q65) h k c4) (s4 x0 x1) (K9 sf_Q65 k)
abbrev l4 (sf_Q65 : Y_Q65) (k : Nat) : T4 := fun x0 x1 => cutK (run (E sf_Q65) h k c4) (s4 x0 x1) (K9 sf_Q65 k)
abbrev s3 := fun x0 x1 x61 => (⟨[(0, .v (.ptr 1) .ro x0), (1, .v (.ptr 1) .ro x1), (61, .v .bool .ro x61)], [], []⟩ : ST cx)
def u3 (sf_Q65 : Y_Q65) (k : Nat) : T3 := fun x0 x1 x61 => uK (run (E sf_Q65) h k c5) (s3 x0 x1 x61) (K11 sf_Q65 k)
abbrev l3 (sf_Q65 : Y_Q65) (k : Nat) : T3 := fun x0 x1 x61 => cutK (run (E sf_Q65) h k c5) (s3 x0 x1 x61) (K11 sf_Q65 k)
abbrev s2 := fun x0 x1 => (⟨[(0, .v (.ptr 1) .ro x0), (1, .v (.ptr 1) .ro x1)], [], []⟩ : ST cx)
def u2 (sf_Q65 : Y_Q65) (k : Nat) : T2 := fun x0 x1 => uK (run (E sf_Q65) h k c1) (s2 x0 x1) (K3 sf_Q65 k)
abbrev l2 (sf_Q65 : Y_Q65) (k : Nat) : T2 := fun x0 x1 => cutK (run (E sf_Q65) h k c1) (s2 x0 x1) (K3 sf_Q65 k)
abbrev s1 := fun x0 x1 x11 => (⟨[(0, .v (.ptr 1) .ro x0), (1, .v (.ptr 1) .ro x1), (11, .v .bool .ro x11)], [], []⟩ : ST cx)
def u1 (sf_Q65 : Y_Q65) (k : Nat) : T1 := fun x0 x1 x11 => uK (run (E sf_Q65) h k c2) (s1 x0 x1 x11) (K5 sf_Q65 k)
abbrev l1 (sf_Q65 : Y_Q65) (k : Nat) : T1 := fun x0 x1 x11 => cutK (run (E sf_Q65) h k c2) (s1 x0 x1 x11) (K5 sf_Q65 k)
def u0 (sf_Q65 : Y_Q65) (k : Nat) : T0 := fun x0 x1 => runOf (S := cx) (E sf_Q65) h k Try.f17 [.val (.ptr 1), .val (.ptr 1)] .bool .ro (x0, x1, ())
def t6 (sf_Q65 : Y_Q65) : T6 := 
  (some (true, ()))
theorem e6 (sf_Q65 : Y_Q65) (k : Nat) : u6 sf_Q65 k = t6 sf_Q65 := by kernel_rfl
theorem g6 (sf_Q65 : Y_Q65) (k : Nat) : l6 sf_Q65 k = u6 sf_Q65 k := cut_u _ _ _
def p6 (sf_Q65 : Y_Q65) (k : Nat) : T6 := t6 sf_Q65
theorem o6 (sf_Q65 : Y_Q65) (k : Nat) : l6 sf_Q65 k = p6 sf_Q65 k := (Eq.trans (b := u6 sf_Q65 k) (g6 sf_Q65 k) (Eq.trans (b := t6 sf_Q65) (e6 sf_Q65 k) (by kernel_rfl)))
def t5 (sf_Q65 : Y_Q65) (f5 : T5) (f6 : T6) : T5 := fun x0 x1 x5 => (bindR x0 fun z9 => (iteB (decide (x5 < ((List.length (out1 z9).2.2.2.1 : Nat) : Int))) (bindR x0 fun z10 => (wnR x5 (List.length (out1 z10).2.2.2.1) fun q11 => (bindR x1 fun z12 => (wnR x5 (List.length (out1 z12).2.2.2.1) fun q13 => (bindR (sf_Q65 ((List.getD (out1 z10).2.2.2.1 q11 none), ((List.getD (out1 z12).2.2.2.1 q13 none), ()))) fun r14 => (iteB (notB r14.1) (some (false, ())) (f5 x0 x1 (w64 (x5 + (1 : Int)))))))))) f6))
theorem e5 (sf_Q65 : Y_Q65) (k n5 : Nat) : u5 sf_Q65 k (n5 + 1) = t5 sf_Q65 (l5 sf_Q65 k n5) (l6 sf_Q65 k) := by kernel_rfl
theorem g5 (sf_Q65 : Y_Q65) (k n5 : Nat) : l5 sf_Q65 k (n5 + 1) = u5 sf_Q65 k (n5 + 1) := funext fun _ => funext fun _ => funext fun _ => cut_u _ _ _
def p5 (sf_Q65 : Y_Q65) (k : Nat) : Nat → T5
  | 0 => fun _ _ _ => none
  | n5 + 1 => t5 sf_Q65 (p5 sf_Q65 k n5) (p6 sf_Q65 k)
theorem o5 (sf_Q65 : Y_Q65) (k : Nat) : ∀ n5, l5 sf_Q65 k n5 = p5 sf_Q65 k n5 := by
  intro n5
  induction n5 with
  | zero => kernel_rfl
  | succ n5 ih => exact (Eq.trans (b := u5 sf_Q65 k (n5 + 1)) (g5 sf_Q65 k n5) (Eq.trans (b := t5 sf_Q65 (l5 sf_Q65 k n5) (l6 sf_Q65 k)) (e5 sf_Q65 k n5) (Eq.trans (b := t5 sf_Q65 (p5 sf_Q65 k n5) (p6 sf_Q65 k)) (congr (congrArg (t5 sf_Q65) ih) (o6 sf_Q65 k)) (by kernel_rfl))))
def t4 (sf_Q65 : Y_Q65) (f5 : T5) : T4 := fun x0 x1 => (f5 x0 x1 (0 : Int))
theorem e4 (sf_Q65 : Y_Q65) (k : Nat) : u4 sf_Q65 k = t4 sf_Q65 (l5 sf_Q65 k k) := by kernel_rfl
theorem g4 (sf_Q65 : Y_Q65) (k : Nat) : l4 sf_Q65 k = u4 sf_Q65 k := funext fun _ => funext fun _ => cut_u _ _ _
def p4 (sf_Q65 : Y_Q65) (k : Nat) : T4 := t4 sf_Q65 (p5 sf_Q65 k k)
theorem o4 (sf_Q65 : Y_Q65) (k : Nat) : l4 sf_Q65 k = p4 sf_Q65 k := (Eq.trans (b := u4 sf_Q65 k) (g4 sf_Q65 k) (Eq.trans (b := t4 sf_Q65 (l5 sf_Q65 k k)) (e4 sf_Q65 k) (Eq.trans (b := t4 sf_Q65 (p5 sf_Q65 k k)) (congrArg (t4 sf_Q65) (o5 sf_Q65 k k)) (by kernel_rfl))))
def t3 (sf_Q65 : Y_Q65) (f4 : T4) : T3 := fun x0 x1 x61 => (iteB x61 (some (false, ())) (f4 x0 x1))
theorem e3 (sf_Q65 : Y_Q65) (k : Nat) : u3 sf_Q65 k = t3 sf_Q65 (l4 sf_Q65 k) := by kernel_rfl
theorem g3 (sf_Q65 : Y_Q65) (k : Nat) : l3 sf_Q65 k = u3 sf_Q65 k := funext fun _ => funext fun _ => funext fun _ => cut_u _ _ _
def p3 (sf_Q65 : Y_Q65) (k : Nat) : T3 := t3 sf_Q65 (p4 sf_Q65 k)
theorem o3 (sf_Q65 : Y_Q65) (k : Nat) : l3 sf_Q65 k = p3 sf_Q65 k := (Eq.trans (b := u3 sf_Q65 k) (g3 sf_Q65 k) (Eq.trans (b := t3 sf_Q65 (l4 sf_Q65 k)) (e3 sf_Q65 k) (Eq.trans (b := t3 sf_Q65 (p4 sf_Q65 k)) (congrArg (t3 sf_Q65) (o4 sf_Q65 k)) (by kernel_rfl))))
def t2 (sf_Q65 : Y_Q65) (f3 : T3) : T2 := fun x0 x1 => (bindR x0 fun z1 => (bindR x1 fun z2 => (iteB (!decide ((out1 z1).1 = (out1 z2).1)) (f3 x0 x1 true) (bindR x0 fun z3 => (bindR x1 fun z4 => (iteB (!decide ((out1 z3).2.1 = (out1 z4).2.1)) (f3 x0 x1 true) (bindR x0 fun z5 => (bindR x1 fun z6 => (iteB (!(decide ((out1 z5).2.2.1 = (out1 z6).2.2.1))) (f3 x0 x1 true) (bindR x0 fun z7 => (bindR x1 fun z8 => (f3 x0 x1 (!decide (((List.length (out1 z7).2.2.2.1 : Nat) : Int) = ((List.length (out1 z8).2.2.2.1 : Nat) : Int)))))))))))))))
theorem e2 (sf_Q65 : Y_Q65) (k : Nat) : u2 sf_Q65 k = t2 sf_Q65 (l3 sf_Q65 k) := by kernel_rfl
theorem g2 (sf_Q65 : Y_Q65) (k : Nat) : l2 sf_Q65 k = u2 sf_Q65 k := funext fun _ => funext fun _ => cut_u _ _ _
def p2 (sf_Q65 : Y_Q65) (k : Nat) : T2 := t2 sf_Q65 (p3 sf_Q65 k)
theorem o2 (sf_Q65 : Y_Q65) (k : Nat) : l2 sf_Q65 k = p2 sf_Q65 k := (Eq.trans (b := u2 sf_Q65 k) (g2 sf_Q65 k) (Eq.trans (b := t2 sf_Q65 (l3 sf_Q65 k)) (e2 sf_Q65 k) (Eq.trans (b := t2 sf_Q65 (p3 sf_Q65 k)) (congrArg (t2 sf_Q65) (o3 sf_Q65 k)) (by kernel_rfl))))
def t1 (sf_Q65 : Y_Q65) (f2 : T2) : T1 := fun x0 x1 x11 => (iteB x11 (iteB (Option.isNone x0) (some ((Option.isNone x1), ())) (some (false, ()))) (f2 x0 x1))
theorem e1 (sf_Q65 : Y_Q65) (k : Nat) : u1 sf_Q65 k = t1 sf_Q65 (l2 sf_Q65 k) := by kernel_rfl
theorem g1 (sf_Q65 : Y_Q65) (k : Nat) : l1 sf_Q65 k = u1 sf_Q65 k := funext fun _ => funext fun _ => funext fun _ => cut_u _ _ _
def p1 (sf_Q65 : Y_Q65) (k : Nat) : T1 := t1 sf_Q65 (p2 sf_Q65 k)
theorem o1 (sf_Q65 : Y_Q65) (k : Nat) : l1 sf_Q65 k = p1 sf_Q65 k := (Eq.trans (b := u1 sf_Q65 k) (g1 sf_Q65 k) (Eq.trans (b := t1 sf_Q65 (l2 sf_Q65 k)) (e1 sf_Q65 k) (Eq.trans (b := t1 sf_Q65 (p2 sf_Q65 k)) (congrArg (t1 sf_Q65) (o2 sf_Q65 k)) (by kernel_rfl))))
def t0 (sf_Q65 : Y_Q65) (f1 : T1) : T0 := fun x0 x1 => (iteB (Option.isNone x0) (f1 x0 x1 true) (f1 x0 x1 (Option.isNone x1)))
theorem e0 (sf_Q65 : Y_Q65) (k : Nat) : u0 sf_Q65 k = t0 sf_Q65 (l1 sf_Q65 k) := by kernel_rfl
def p0 (sf_Q65 : Y_Q65) (k : Nat) : T0 := t0 sf_Q65 (p1 sf_Q65 k)
theorem o0 (sf_Q65 : Y_Q65) (k : Nat) : u0 sf_Q65 k = p0 sf_Q65 k := (Eq.trans (b := t0 sf_Q65 (l1 sf_Q65 k)) (e0 sf_Q65 k) (Eq.trans (b := t0 sf_Q65 (p1 sf_Q65 k)) (congrArg (t0 sf_Q65) (o1 sf_Q65 k)) (by kernel_rfl)))
end Q65
def r_Q65 : Nat → ((Option N1) × ((Option N1) × Unit)) → Option (Bool × Unit)
  | 0, _ => none
  | n + 1, a => Q65.p0 (r_Q65 n) fuel a.1 a.2.1
theorem okr_Q65 : ∀ n, FnOk Try.prog (Fr_Q65 (r_Q65 n)) 17
  | 0 => fn_none (fun _ => rfl)
  | n + 1 => fn_of (F := Fr_Q65 (r_Q65 (n + 1))) (hn := Q65.h) (E := Q65.E (r_Q65 n)) cxOk (tysT _ _) (fs_cons (okr_Q65 n) fs_nil) follows Try.func17 (by kernel_rfl) (fun a r h => ⟨fuel, Eq.trans (c := some r) (congrFun (congrFun (Q65.o0 (r_Q65 n) fuel) a.1) a.2.1) h⟩)
def s_Q65 (a : (Option N1) × ((Option N1) × Unit)) : Option (Bool × Unit) := r_Q65 fuel a
def F_Q65 : FSpec cx.toNm := Fr_Q65 s_Q65
theorem ok_Q65 : FnOk Try.prog F_Q65 17 := fun w Z own vs a r h1 h2 h3 h4 => (okr_Q65 fuel) w Z own vs a r h1 h2 h3 h4
def Fr_Q66 (f : (D0 × ((Option N1) × Unit)) → Option (Bool × Unit)) : FSpec cx.toNm := { ps := [.val ty0, .val (.ptr 1)], nres := 1, rt := .bool, rm := .ro, f := f }
namespace Q66
def E (sf_Q66 : Y_Q66) : Env cx := { tys := tys, fs := fsOf [(16, (Fr_Q66 sf_Q66))] }
abbrev R := Option (Bool × Unit)
abbrev C := Exit → ST cx → R
noncomputable def b : Code := bodyC Try.f16
def h : Hint := { vs := [0, 1, 2, 4, 5, 6, 7], nil := [], cuts := [(6, ([1, 2, 65], [2]), ([1, 2], [2])), (7, ([1, 2], [2]), ([1, 2], [2])), (9, ([1, 2, 5, 91], [2, 5]), ([1, 2, 5], [2, 5])), (10, ([1, 2, 5], [2, 5]), ([1, 2, 5], [2, 5])), (12, ([1, 2, 5, 6, 7], [2, 5]), ([1, 6], [])), (13, ([1, 2, 5, 6, 7], [2, 5]), ([1, 2, 5, 6, 7], [2, 5])), (15, ([1, 2, 5, 6, 7, 128], [2, 5]), ([1, 2, 5, 6, 7], [2, 5])), (16, ([1, 2, 5, 6, 7], [2, 5]), ([1, 2, 5, 6, 7], [2, 5])), (17, ([1, 6], []), ([1, 6], []))], ret := ([4], [2, 5]), ords := [] }
def K0 (sf_Q66 : Y_Q66) : C := fin (S := cx) (E sf_Q66) Try.f16.results.toList .bool .ro [] []
def c0 : Code := subC b [1]
def K1 (sf_Q66 : Y_Q66) (k : Nat) : C := outD h c0 (K0 sf_Q66)
def c1 : Code := subC b [1, 1]
def K3 (sf_Q66 : Y_Q66) (k : Nat) : C := outD h c1 (K1 sf_Q66 k)
def c4 : Code := subC b [1, 1, 1]
def K9 (sf_Q66 : Y_Q66) (k : Nat) : C := outD h c4 (K3 sf_Q66 k)
def c7 : Code := subC b [1, 1, 1, 1]
def K15 (sf_Q66 : Y_Q66) (k : Nat) : C := outD h c7 (K9 sf_Q66 k)
def K16 (sf_Q66 : Y_Q66) (k : Nat) : C := seqC (E sf_Q66) h k c7 (K9 sf_Q66 k)
def c8 : Code := subC b [1, 1, 1, 0, 1]
def K17 (sf_Q66 : Y_Q66) (k : Nat) : C := outD h c8 (K16 sf_Q66 k)
def c10 : Code := subC b [1, 1, 1, 1, 1]
def K21 (sf_Q66 : Y_Q66) (k : Nat) : C := outD h c10 (K15 sf_Q66 k)
def c11 : Code := subC b [1, 1, 1, 1, 1, 1]
def K23 (sf_Q66 : Y_Q66) (k : Nat) : C := outD h c11 (K21 sf_Q66 k)
def K24 (sf_Q66 : Y_Q66) (k : Nat) : C := seqC (E sf_Q66) h k c11 (K21 sf_Q66 k)
def c12 : Code := subC b [1, 1, 1, 1, 1, 0, 1]
def K25 (sf_Q66 : Y_Q66) (k : Nat) : C := outD h c12 (K24 sf_Q66 k)
def c14 : Code := subC b [1, 1, 1, 1, 1, 1, 1]
def K29 (sf_Q66 : Y_Q66) (k : Nat) : C := outD h c14 (K23 sf_Q66 k)
def c15 : Code := subC b [1, 1, 1, 1, 1, 1, 1, 1]
def K31 (sf_Q66 : Y_Q66) (k : Nat) : C := outD h c15 (K29 sf_Q66 k)
def K32 (sf_Q66 : Y_Q66) (k : Nat) : C := seqC (E sf_Q66) h k c15 (K29 sf_Q66 k)
def c16 : Code := subC b [1, 1, 1, 1, 1, 1, 1, 0, 1]
def K33 (sf_Q66 : Y_Q66) (k : Nat) : C := outD h c16 (K32 sf_Q66 k)
def K35 (sf_Q66 : Y_Q66) (k : Nat) : C := blockK 0 (K33 sf_Q66 k)
def c17 : Code := subC b [1, 1, 1, 1, 1, 1, 1, 0, 1, 0, 0]
def K36 (sf_Q66 : Y_Q66) (k n5 : Nat) : C := loopD (E sf_Q66) h k c17 (K35 sf_Q66 k) n5
def c18 : Code := subC b [1, 1, 1, 1, 1, 1, 1, 0, 1, 0, 0, 1]
def K37 (sf_Q66 : Y_Q66) (k n5 : Nat) : C := outD h c18 (K36 sf_Q66 k n5)
def c20 : Code := subC b [1, 1, 1, 1, 1, 1, 1, 0, 1, 0, 0, 1, 1]
def K41 (sf_Q66 : Y_Q66) (k n5 : Nat) : C := outD h c20 (K37 sf_Q66 k n5)
def K42 (sf_Q66 : Y_Q66) (k n5 : Nat) : C := seqC (E sf_Q66) h k c20 (K37 sf_Q66 k n5)
def K43 (sf_Q66 : Y_Q66) (k n5 : Nat) : C := blockK 1 (K42 sf_Q66 k n5)
def c21 : Code := subC b [1, 1, 1, 1, 1, 1, 1, 0, 1, 0, 0, 1, 0, 0, 1]
def K44 (sf_Q66 : Y_Q66) (k n5 : Nat) : C := outD h c21 (K43 sf_Q66 k n5)
def K45 (sf_Q66 : Y_Q66) (k n5 : Nat) : C := seqC (E sf_Q66) h k c21 (K43 sf_Q66 k n5)
def c22 : Code := subC b [1, 1, 1, 1, 1, 1, 1, 0, 1, 0, 0, 1, 0, 0, 0, 1]
def K46 (sf_Q66 : Y_Q66) (k n5 : Nat) : C := outD h c22 (K45 sf_Q66 k n5)
abbrev T9 := (Option N1) → Int → Int → D0 → (Int × (List Int)) → R
abbrev T8 := (Option N1) → Int → Int → D0 → (Int × (List Int)) → R
abbrev T6 := (Option N1) → Int → Int → Bool → D0 → (Int × (List Int)) → R
abbrev T7 := (Option N1) → Int → R
abbrev T5 := (Option N1) → Int → Int → D0 → (Int × (List Int)) → R
abbrev T4 := (Option N1) → D0 → (Int × (List Int)) → R
abbrev T3 := (Option N1) → Bool → D0 → (Int × (List Int)) → R
abbrev T2 := (Option N1) → D0 → R
abbrev T1 := (Option N1) → Bool → D0 → R
abbrev T0 := D0 → (Option N1) → R
abbrev s9 := fun x1 x6 x7 m2 m5 => (⟨[(1, .v (.ptr 1) .ro x1), (2, .addr (.mem 2) []), (5, .addr (.mem 5) []), (6, .v (.int .i64) .ro x6), (7, .v (.int .i64) .ro x7)], [], [(2, ⟨ty0, .ro, m2⟩), (5, ⟨(.agg (.pair (.int .i64) (.slice 3 (.int .i64)))), .ro, m5⟩)]⟩ : ST cx)
def u9 (sf_Q66 : Y_Q66) (k n5 : Nat) : T9 := fun x1 x6 x7 m2 m5 => uK (run (E sf_Q66) h k c20) (s9 x1 x6 x7 m2 m5) (K41 sf_Q66 k n5)
abbrev l9 (sf_Q66 : Y_Q66) (k n5 : Nat) : T9 := fun x1 x6 x7 m2 m5 => cutK (run (E sf_Q66) h k c20) (s9 x1 x6 x7 m2 m5) (K41 sf_Q66 k n5)
abbrev s8 := fun x1 x6 x7 m2 m5 => (⟨[(1, .v (.ptr 1) .ro x1), (2, .addr (.mem 2) []), (5, .addr (.mem 5) []), (6, .v (.int .i64) .ro x6), (7, .v (.int .i64) .ro x7)], [], [(2, ⟨ty0, .ro, m2⟩), (5, ⟨(.agg (.pair (.int .i64) (.slice 3 (.int .i64)))), .ro, m5⟩)]⟩ : ST cx)
def u8 (sf_Q66 : Y_Q66) (k n5 : Nat) : T8 := fun x1 x6 x7 m2 m5 => uK (run (E sf_Q66) h k c21) (s8 x1 x6 x7 m2 m5) (K44 sf_Q66 k n5)
abbrev l8 (sf_Q66 : Y_Q66) (k n5 : Nat) : T8 := fun x1 x6 x7 m2 m5 => cutK (run (E sf_Q66) h k c21) (s8 x1 x6 x7 m2 m5) (K44 sf_Q66 k n5)
abbrev s6 := fun x1 x6 x7 x128 m2 m5 => (⟨[(1, .v (.ptr 1) .ro x1), (2, .addr (.mem 2) []), (5, .addr (.mem 5) []), (6, .v (.int .i64) .ro x6), (7, .v (.int .i64) .ro x7), (128, .v .bool .ro x128)], [], [(2, ⟨ty0, .ro, m2⟩), (5, ⟨(.agg (.pair (.int .i64) (.slice 3 (.int .i64)))), .ro, m5⟩)]⟩ : ST cx)
def u6 (sf_Q66 : Y_Q66) (k n5 : Nat) : T6 := fun x1 x6 x7 x128 m2 m5 => uK (run (E sf_Q66) h k c22) (s6 x1 x6 x7 x128 m2 m5) (K46 sf_Q66 k n5)
abbrev l6 (sf_Q66 : Y_Q66) (k n5 : Nat) : T6 := fun x1 x6 x7 x128 m2 m5 => cutK (run (E sf_Q66) h k c22) (s6 x1 x6 x7 x128 m2 m5) (K46 sf_Q66 k n5)
abbrev s7 := fun x1 x6 => (⟨[(1, .v (.ptr 1) .ro x1), (6, .v (.int .i64) .ro x6)], [], []⟩ : ST cx)
def u7 (sf_Q66 : Y_Q66) (k : Nat) : T7 := fun x1 x6 => uK (run (E sf_Q66) h k c15) (s7 x1 x6) (K31 sf_Q66 k)
abbrev l7 (sf_Q66 : Y_Q66) (k : Nat) : T7 := fun x1 x6 => cutK (run (E sf_Q66) h k c15) (s7 x1 x6) (K31 sf_Q66 k)
abbrev s5 := fun x1 x6 x7 m2 m5 => (⟨[(1, .v (.ptr 1) .ro x1), (2, .addr (.mem 2) []), (5, .addr (.mem 5) []), (6, .v (.int .i64) .ro x6), (7, .v (.int .i64) .ro x7)], [], [(2, ⟨ty0, .ro, m2⟩), (5, ⟨(.agg (.pair (.int .i64) (.slice 3 (.int .i64)))), .ro, m5⟩)]⟩ : ST cx)
def u5 (sf_Q66 : Y_Q66) (k n5 : Nat) : T5 := fun x1 x6 x7 m2 m5 => uK (loopL (E sf_Q66) h k c17 (K35 sf_Q66 k) n5) (s5 x1 x6 x7 m2 m5) ()
abbrev l5 (sf_Q66 : Y_Q66) (k n5 : Nat) : T5 := fun x1 x6 x7 m2 m5 => cutK (loopL (E sf_Q66) h k c17 (K35 sf_Q66 k) n5) (s5 x1 x6 x7 m2 m5) ()
abbrev s4 := fun x1 m2 m5 => (⟨[(1, .v (.ptr 1) .ro x1), (2, .addr (.mem 2) []), (5, .addr (.mem 5) [])], [], [(2, ⟨ty0, .ro, m2⟩), (5, ⟨(.agg (.pair (.int .i64) (.slice 3 (.int .i64)))), .ro, m5⟩)]⟩ : ST cx)
def u4 (sf_Q66 : Y_Q66) (k : Nat) : T4 := fun x1 m2 m5 => uK (run (E sf_Q66) h k c11) (s4 x1 m2 m5) (K23 sf_Q66 k)
abbrev l4 (sf_Q66 : Y_Q66) (k : Nat) : T4 := fun x1 m2 m5 => cutK (run (E sf_Q66) h k c11) (s4 x1 m2 m5) (K23 sf_Q66 k)
abbrev s3 := fun x1 x91 m2 m5 => (⟨[(1, .v (.ptr 1) .ro x1), (2, .addr (.mem 2) []), (5, .addr (.mem 5) []), (91, .v .bool .ro x91)], [], [(2, ⟨ty0, .ro, m2⟩), (5, ⟨(.agg (.pair (.int .i64) (.slice 3 (.int .i64)))), .ro, m5⟩)]⟩ : ST cx)
def u3 (sf_Q66 : Y_Q66) (k : Nat) : T3 := fun x1 x91 m2 m5 => uK (run (E sf_Q66) h k c12) (s3 x1 x91 m2 m5) (K25 sf_Q66 k)
abbrev l3 (sf_Q66 : Y_Q66) (k : Nat) : T3 := fun x1 x91 m2 m5 => cutK (run (E sf_Q66) h k c12) (s3 x1 x91 m2 m5) (K25 sf_Q66 k)
abbrev s2 := fun x1 m2 => (⟨[(1, .v (.ptr 1) .ro x1), (2, .addr (.mem 2) [])], [], [(2, ⟨ty0, .ro, m2⟩)]⟩ : ST cx)
def u2 (sf_Q66 : Y_Q66) (k : Nat) : T2 := fun x1 m2 => uK (run (E sf_Q66) h k c7) (s2 x1 m2) (K15 sf_Q66 k)
abbrev l2 (sf_Q66 : Y_Q66) (k : Nat) : T2 := fun x1 m2 => cutK (run (E sf_Q66) h k c7) (s2 x1 m2) (K15 sf_Q66 k)
abbrev s1 := fun x1 x65 m2 => (⟨[(1, .v (.ptr 1) .ro x1), (2, .addr (.mem 2) []), (65, .v .bool .ro x65)], [], [(2, ⟨ty0, .ro, m2⟩)]⟩ : ST cx)
def u1 (sf_Q66 : Y_Q66) (k : Nat) : T1 := fun x1 x65 m2 => uK (run (E sf_Q66) h k c8) (s1 x1 x65 m2) (K17 sf_Q66 k)
abbrev l1 (sf_Q66 : Y_Q66) (k : Nat) : T1 := fun x1 x65 m2 => cutK (run (E sf_Q66) h k c8) (s1 x1 x65 m2) (K17 sf_Q66 k)
def u0 (sf_Q66 : Y_Q66) (k : Nat) : T0 := fun x0 x1 => runOf (S := cx) (E sf_Q66) h k Try.f16 [.val ty0, .val (.ptr 1)] .bool .ro (x0, x1, ())
def t9 (sf_Q66 : Y_Q66) (f5 : T5) : T9 := fun x1 x6 x7 m2 m5 => (f5 x1 x6 (w64 (x7 + (1 : Int))) m2 m5)
theorem e9 (sf_Q66 : Y_Q66) (k n5 : Nat) : u9 sf_Q66 k n5 = t9 sf_Q66 (l5 sf_Q66 k n5) := by kernel_rfl
theorem g9 (sf_Q66 : Y_Q66) (k n5 : Nat) : l9 sf_Q66 k n5 = u9 sf_Q66 k n5 := funext fun _ => funext fun _ => funext fun _ => funext fun _ => funext fun _ => cut_u _ _ _
def p9 (sf_Q66 : Y_Q66) (k : Nat) (a5 : T5) : T9 := t9 sf_Q66 a5
theorem o9 (sf_Q66 : Y_Q66) (k n5 : Nat) (a5 : T5) (h5 : l5 sf_Q66 k n5 = a5) : l9 sf_Q66 k n5 = p9 sf_Q66 k a5 := (Eq.trans (b := u9 sf_Q66 k n5) (g9 sf_Q66 k n5) (Eq.trans (b := t9 sf_Q66 (l5 sf_Q66 k n5)) (e9 sf_Q66 k n5) (Eq.trans (b := t9 sf_Q66 a5) (congrArg (t9 sf_Q66) h5) (by kernel_rfl))))
def t8 (sf_Q66 : Y_Q66) (f9 : T9) : T8 := fun x1 x6 x7 m2 m5 => (bindR x1 fun z21 => (wnR x7 (List.length (out1 z21).2.2.2.1) fun q22 => (bindR (List.getD (out1 z21).2.2.2.1 q22 none) fun z23 => (f9 x1 (w64 (x6 + (out1 z23).2.2.2.2.1)) x7 m2 m5))))
theorem e8 (sf_Q66 : Y_Q66) (k n5 : Nat) : u8 sf_Q66 k n5 = t8 sf_Q66 (l9 sf_Q66 k n5) := by kernel_rfl
theorem g8 (sf_Q66 : Y_Q66) (k n5 : Nat) : l8 sf_Q66 k n5 = u8 sf_Q66 k n5 := funext fun _ => funext fun _ => funext fun _ => funext fun _ => funext fun _ => cut_u _ _ _
def p8 (sf_Q66 : Y_Q66) (k : Nat) (a5 : T5) : T8 := t8 sf_Q66 (p9 sf_Q66 k a5)
theorem o8 (sf_Q66 : Y_Q66) (k n5 : Nat) (a5 : T5) (h5 : l5 sf_Q66 k n5 = a5) : l8 sf_Q66 k n5 = p8 sf_Q66 k a5 := (Eq.trans (b := u8 sf_Q66 k n5) (g8 sf_Q66 k n5) (Eq.trans (b := t8 sf_Q66 (l9 sf_Q66 k n5)) (e8 sf_Q66 k n5) (Eq.trans (b := t8 sf_Q66 (p9 sf_Q66 k a5)) (congrArg (t8 sf_Q66) (o9 sf_Q66 k n5 a5 h5)) (by kernel_rfl))))
def t6 (sf_Q66 : Y_Q66) (f8 : T8) : T6 := fun x1 x6 x7 x128 m2 m5 => (iteB x128 (some (false, ())) (f8 x1 x6 x7 m2 m5))
theorem e6 (sf_Q66 : Y_Q66) (k n5 : Nat) : u6 sf_Q66 k n5 = t6 sf_Q66 (l8 sf_Q66 k n5) := by kernel_rfl
theorem g6 (sf_Q66 : Y_Q66) (k n5 : Nat) : l6 sf_Q66 k n5 = u6 sf_Q66 k n5 := funext fun _ => funext fun _ => funext fun _ => funext fun _ => funext fun _ => funext fun _ => cut_u _ _ _
def p6 (sf_Q66 : Y_Q66) (k : Nat) (a5 : T5) : T6 := t6 sf_Q66 (p8 sf_Q66 k a5)
theorem o6 (sf_Q66 : Y_Q66) (k n5 : Nat) (a5 : T5) (h5 : l5 sf_Q66 k n5 = a5) : l6 sf_Q66 k n5 = p6 sf_Q66 k a5 := (Eq.trans (b := u6 sf_Q66 k n5) (g6 sf_Q66 k n5) (Eq.trans (b := t6 sf_Q66 (l8 sf_Q66 k n5)) (e6 sf_Q66 k n5) (Eq.trans (b := t6 sf_Q66 (p8 sf_Q66 k a5)) (congrArg (t6 sf_Q66) (o8 sf_Q66 k n5 a5 h5)) (by kernel_rfl))))
def t7 (sf_Q66 : Y_Q66) : T7 := fun x1 x6 => (bindR x1 fun z24 => (some ((decide ((out1 z24).2.2.2.2.1 = x6)), ())))
theorem e7 (sf_Q66 : Y_Q66) (k : Nat) : u7 sf_Q66 k = t7 sf_Q66 := by kernel_rfl
theorem g7 (sf_Q66 : Y_Q66) (k : Nat) : l7 sf_Q66 k = u7 sf_Q66 k := funext fun _ => funext fun _ => cut_u _ _ _
def p7 (sf_Q66 : Y_Q66) (k : Nat) : T7 := t7 sf_Q66
theorem o7 (sf_Q66 : Y_Q66) (k : Nat) : l7 sf_Q66 k = p7 sf_Q66 k := (Eq.trans (b := u7 sf_Q66 k) (g7 sf_Q66 k) (Eq.trans (b := t7 sf_Q66) (e7 sf_Q66 k) (by kernel_rfl)))
def t5 (sf_Q66 : Y_Q66) (f6 : T6) (f7 : T7) : T5 := fun x1 x6 x7 m2 m5 => (bindR x1 fun z13 => (iteB (decide (x7 < ((List.length (out1 z13).2.2.2.1 : Nat) : Int))) (bindR x1 fun z14 => (wnR x7 (List.length (out1 z14).2.2.2.1) fun q15 => (bindR (sf_Q66 (m2, ((List.getD (out1 z14).2.2.2.1 q15 none), ()))) fun r16 => (iteB (notB r16.1) (f6 x1 x6 x7 true m2 m5) (bindR x1 fun z17 => (wnR x7 (List.length (out1 z17).2.2.2.1) fun q18 => (bindR (List.getD (out1 z17).2.2.2.1 q18 none) fun z19 => (wnR x7 (List.length m5.2) fun q20 => (f6 x1 x6 x7 (!decide ((out1 z19).1 = (List.getD m5.2 q20 (0 : Int)))) m2 m5))))))))) (f7 x1 x6)))
theorem e5 (sf_Q66 : Y_Q66) (k n5 : Nat) : u5 sf_Q66 k (n5 + 1) = t5 sf_Q66 (l6 sf_Q66 k n5) (l7 sf_Q66 k) := by kernel_rfl
theorem g5 (sf_Q66 : Y_Q66) (k n5 : Nat) : l5 sf_Q66 k (n5 + 1) = u5 sf_Q66 k (n5 + 1) := funext fun _ => funext fun _ => funext fun _ => funext fun _ => funext fun _ => cut_u _ _ _
def p5 (sf_Q66 : Y_Q66) (k : Nat) : Nat → T5
  | 0 => fun _ _ _ _ _ => none
  | n5 + 1 => t5 sf_Q66 (p6 sf_Q66 k (p5 sf_Q66 k n5)) (p7 sf_Q66 k)
theorem o5 (sf_Q66 : Y_Q66) (k : Nat) : ∀ n5, l5 sf_Q66 k n5 = p5 sf_Q66 k n5 := by
  intro n5
  induction n5 with
  | zero => kernel_rfl
  | succ n5 ih => exact (Eq.trans (b := u5 sf_Q66 k (n5 + 1)) (g5 sf_Q66 k n5) (Eq.trans (b := t5 sf_Q66 (l6 sf_Q66 k n5) (l7 sf_Q66 k)) (e5 sf_Q66 k n5) (Eq.trans (b := t5 sf_Q66 (p6 sf_Q66 k (p5 sf_Q66 k n5)) (p7 sf_Q66 k)) (congr (congrArg (t5 sf_Q66) (o6 sf_Q66 k n5 (p5 sf_Q66 k n5) ih)) (o7 sf_Q66 k)) (by kernel_rfl))))
def t4 (sf_Q66 : Y_Q66) (f5 : T5) : T4 := fun x1 m2 m5 => (f5 x1 (0 : Int) (0 : Int) m2 m5)
theorem e4 (sf_Q66 : Y_Q66) (k : Nat) : u4 sf_Q66 k = t4 sf_Q66 (l5 sf_Q66 k k) := by kernel_rfl
theorem g4 (sf_Q66 : Y_Q66) (k : Nat) : l4 sf_Q66 k = u4 sf_Q66 k := funext fun _ => funext fun _ => funext fun _ => cut_u _ _ _
def p4 (sf_Q66 : Y_Q66) (k : Nat) : T4 := t4 sf_Q66 (p5 sf_Q66 k k)
theorem o4 (sf_Q66 : Y_Q66) (k : Nat) : l4 sf_Q66 k = p4 sf_Q66 k := (Eq.trans (b := u4 sf_Q66 k) (g4 sf_Q66 k) (Eq.trans (b := t4 sf_Q66 (l5 sf_Q66 k k)) (e4 sf_Q66 k) (Eq.trans (b := t4 sf_Q66 (p5 sf_Q66 k k)) (congrArg (t4 sf_Q66) (o5 sf_Q66 k k)) (by kernel_rfl))))
def t3 (sf_Q66 : Y_Q66) (f4 : T4) : T3 := fun x1 x91 m2 m5 => (iteB x91 (some (false, ())) (f4 x1 m2 m5))
theorem e3 (sf_Q66 : Y_Q66) (k : Nat) : u3 sf_Q66 k = t3 sf_Q66 (l4 sf_Q66 k) := by kernel_rfl
theorem g3 (sf_Q66 : Y_Q66) (k : Nat) : l3 sf_Q66 k = u3 sf_Q66 k := funext fun _ => funext fun _ => funext fun _ => funext fun _ => cut_u _ _ _
def p3 (sf_Q66 : Y_Q66) (k : Nat) : T3 := t3 sf_Q66 (p4 sf_Q66 k)
theorem o3 (sf_Q66 : Y_Q66) (k : Nat) : l3 sf_Q66 k = p3 sf_Q66 k := (Eq.trans (b := u3 sf_Q66 k) (g3 sf_Q66 k) (Eq.trans (b := t3 sf_Q66 (l4 sf_Q66 k)) (e3 sf_Q66 k) (Eq.trans (b := t3 sf_Q66 (p4 sf_Q66 k)) (congrArg (t3 sf_Q66) (o4 sf_Q66 k)) (by kernel_rfl))))
def t2 (sf_Q66 : Y_Q66) (f3 : T3) : T2 := fun x1 m2 => (bindR x1 fun z9 => (wnR ((out1 z9).2.1) (List.length m2.2.2.2.1) fun q10 => (bindR x1 fun z11 => (iteB (!decide ((out1 z11).1 = (List.getD m2.2.2.2.1 q10 ((0 : Int), ([] : List Int))).1)) (f3 x1 true m2 (List.getD m2.2.2.2.1 q10 ((0 : Int), ([] : List Int)))) (bindR x1 fun z12 => (f3 x1 (!decide (((List.length (out1 z12).2.2.2.1 : Nat) : Int) = ((List.length (List.getD m2.2.2.2.1 q10 ((0 : Int), ([] : List Int))).2 : Nat) : Int))) m2 (List.getD m2.2.2.2.1 q10 ((0 : Int), ([] : List Int)))))))))
theorem e2 (sf_Q66 : Y_Q66) (k : Nat) : u2 sf_Q66 k = t2 sf_Q66 (l3 sf_Q66 k) := by kernel_rfl
theorem g2 (sf_Q66 : Y_Q66) (k : Nat) : l2 sf_Q66 k = u2 sf_Q66 k := funext fun _ => funext fun _ => cut_u _ _ _
def p2 (sf_Q66 : Y_Q66) (k : Nat) : T2 := t2 sf_Q66 (p3 sf_Q66 k)
theorem o2 (sf_Q66 : Y_Q66) (k : Nat) : l2 sf_Q66 k = p2 sf_Q66 k := (Eq.trans (b := u2 sf_Q66 k) (g2 sf_Q66 k) (Eq.trans (b := t2 sf_Q66 (l3 sf_Q66 k)) (e2 sf_Q66 k) (Eq.trans (b := t2 sf_Q66 (p3 sf_Q66 k)) (congrArg (t2 sf_Q66) (o3 sf_Q66 k)) (by kernel_rfl))))
def t1 (sf_Q66 : Y_Q66) (f2 : T2) : T1 := fun x1 x65 m2 => (iteB x65 (some (false, ())) (f2 x1 m2))
theorem e1 (sf_Q66 : Y_Q66) (k : Nat) : u1 sf_Q66 k = t1 sf_Q66 (l2 sf_Q66 k) := by kernel_rfl
theorem g1 (sf_Q66 : Y_Q66) (k : Nat) : l1 sf_Q66 k = u1 sf_Q66 k := funext fun _ => funext fun _ => funext fun _ => cut_u _ _ _
def p1 (sf_Q66 : Y_Q66) (k : Nat) : T1 := t1 sf_Q66 (p2 sf_Q66 k)
theorem o1 (sf_Q66 : Y_Q66) (k : Nat) : l1 sf_Q66 k = p1 sf_Q66 k := (Eq.trans (b := u1 sf_Q66 k) (g1 sf_Q66 k) (Eq.trans (b := t1 sf_Q66 (l2 sf_Q66 k)) (e1 sf_Q66 k) (Eq.trans (b := t1 sf_Q66 (p2 sf_Q66 k)) (congrArg (t1 sf_Q66) (o2 sf_Q66 k)) (by kernel_rfl))))
def t0 (sf_Q66 : Y_Q66) (f1 : T1) : T0 := fun x0 x1 => (iteB (Option.isNone x1) (some (false, ())) (bindR x1 fun z1 => (iteB (decide ((out1 z1).2.1 = (-1 : Int))) (bindR x1 fun z2 => (iteB (decide ((0 : Int) ≤ (out1 z2).1)) (bindR x1 fun z3 => (iteB (decide ((out1 z3).1 < x0.2.1)) (bindR x1 fun z4 => (iteB (decide (((List.length (out1 z4).2.2.2.1 : Nat) : Int) = (0 : Int))) (bindR x1 fun z5 => (some ((decide ((out1 z5).2.2.2.2.1 = (1 : Int))), ()))) (some (false, ())))) (some (false, ())))) (some (false, ())))) (bindR x1 fun z6 => (iteB (decide ((out1 z6).2.1 < (0 : Int))) (f1 x1 true x0) (bindR x1 fun z7 => (iteB (decide (((List.length x0.2.2.2.1 : Nat) : Int) ≤ (out1 z7).2.1)) (f1 x1 true x0) (bindR x1 fun z8 => (f1 x1 (!(decide ((out1 z8).2.2.1 = ([] : List UInt8)))) x0)))))))))
theorem e0 (sf_Q66 : Y_Q66) (k : Nat) : u0 sf_Q66 k = t0 sf_Q66 (l1 sf_Q66 k) := by kernel_rfl
def p0 (sf_Q66 : Y_Q66) (k : Nat) : T0 := t0 sf_Q66 (p1 sf_Q66 k)
theorem o0 (sf_Q66 : Y_Q66) (k : Nat) : u0 sf_Q66 k = p0 sf_Q66 k := (Eq.trans (b := t0 sf_Q66 (l1 sf_Q66 k)) (e0 sf_Q66 k) (Eq.trans (b := t0 sf_Q66 (p1 sf_Q66 k)) (congrArg (t0 sf_Q66) (o1 sf_Q66 k)) (by kernel_rfl)))
end Q66
def r_Q66 : Nat → (D0 × ((Option N1) × Unit)) → Option (Bool × Unit)
  | 0, _ => none
  | n + 1, a => Q66.p0 (r_Q66 n) fuel a.1 a.2.1
theorem okr_Q66 : ∀ n, FnOk Try.prog (Fr_Q66 (r_Q66 n)) 16
  | 0 => fn_none (fun _ => rfl)
  | n + 1 => fn_of (F := Fr_Q66 (r_Q66 (n + 1))) (hn := Q66.h) (E := Q66.E (r_Q66 n)) cxOk (tysT _ _) (fs_cons (okr_Q66 n) fs_nil) follows Try.func16 (by kernel_rfl) (fun a r h => ⟨fuel, Eq.trans (c := some r) (congrFun (congrFun (Q66.o0 (r_Q66 n) fuel) a.1) a.2.1) h⟩)
def s_Q66 (a : D0 × ((Option N1) × Unit)) : Option (Bool × Unit) := r_Q66 fuel a
def F_Q66 : FSpec cx.toNm := Fr_Q66 s_Q66
theorem ok_Q66 : FnOk Try.prog F_Q66 16 := fun w Z own vs a r h1 h2 h3 h4 => (okr_Q66 fuel) w Z own vs a r h1 h2 h3 h4
def Fr_Q67 (f : ((Option N1) × (Int × Unit)) → Option (Int × Unit)) : FSpec cx.toNm := { ps := [.val (.ptr 1), .val (.int .i64)], nres := 1, rt := (.int .i64), rm := .ro, f := f }
namespace Q67
def E (sf_Q67 : Y_Q67) : Env cx := { tys := tys, fs := fsOf [(32, (Fr_Q67 sf_Q67))] }
abbrev R := Option (Int × Unit)
abbrev C := Exit → ST cx → R
noncomputable def b : Code := bodyC Try.f32
def h : Hint := { vs := [0, 1, 4, 5], nil := [], cuts := [(3, ([0, 1, 13], []), ([0, 1], [])), (4, ([0, 1], []), ([0, 1], [])), (5, ([0, 1, 5], []), ([1], [])), (7, ([0, 1, 5], []), ([0, 1, 5], [])), (8, ([1], []), ([1], [])), (1000000, ([0, 1, 5, 25], []), ([0, 1, 5], []))], ret := ([4], []), ords := [] }
def K0 (sf_Q67 : Y_Q67) : C := fin (S := cx) (E sf_Q67) Try.f32.results.toList (.int .i64) .ro [] []
def c0 : Code := subC b [1]
def K1 (sf_Q67 : Y_Q67) (k : Nat) : C := outD h c0 (K0 sf_Q67)
def c1 : Code := subC b [1, 1]
def K3 (sf_Q67 : Y_Q67) (k : Nat) : C := outD h c1 (K1 sf_Q67 k)
def c2 : Code := subC b [1, 1, 1]
def K5 (sf_Q67 : Y_Q67) (k : Nat) : C := outD h c2 (K3 sf_Q67 k)
def K6 (sf_Q67 : Y_Q67) (k : Nat) : C := seqC (E sf_Q67) h k c2 (K3 sf_Q67 k)
def c3 : Code := subC b [1, 1, 0, 1]
def K7 (sf_Q67 : Y_Q67) (k : Nat) : C := outD h c3 (K6 sf_Q67 k)
def c5 : Code := subC b [1, 1, 1, 1]
def K11 (sf_Q67 : Y_Q67) (k : Nat) : C := outD h c5 (K5 sf_Q67 k)
def K12 (sf_Q67 : Y_Q67) (k : Nat) : C := seqC (E sf_Q67) h k c5 (K5 sf_Q67 k)
def c6 : Code := subC b [1, 1, 1, 0, 1]
def K13 (sf_Q67 : Y_Q67) (k : Nat) : C := outD h c6 (K12 sf_Q67 k)
def K15 (sf_Q67 : Y_Q67) (k : Nat) : C := blockK 0 (K13 sf_Q67 k)
def c7 : Code := subC b [1, 1, 1, 0, 1, 0, 0]
def K16 (sf_Q67 : Y_Q67) (k n3 : Nat) : C := loopD (E sf_Q67) h k c7 (K15 sf_Q67 k) n3
def c8 : Code := subC b [1, 1, 1, 0, 1, 0, 0, 1]
def K17 (sf_Q67 : Y_Q67) (k n3 : Nat) : C := outD h c8 (K16 sf_Q67 k n3)
def K18 (sf_Q67 : Y_Q67) (k n3 : Nat) : C := seqC (E sf_Q67) h k c8 (K16 sf_Q67 k n3)
def c9 : Code := subC b [1, 1, 1, 0, 1, 0, 0, 0, 1]
def K19 (sf_Q67 : Y_Q67) (k n3 : Nat) : C := outD h c9 (K18 sf_Q67 k n3)
abbrev T5 := (Option N1) → Int → Int → R
abbrev T6 := Int → R
abbrev T4 := (Option N1) → Int → Int → Bool → R
abbrev T3 := (Option N1) → Int → Int → R
abbrev T2 := (Option N1) → Int → R
abbrev T1 := (Option N1) → Int → Bool → R
abbrev T0 := (Option N1) → Int → R
abbrev s5 := fun x0 x1 x5 => (⟨[(0, .v (.ptr 1) .ro x0), (1, .v (.int .i64) .ro x1), (5, .v (.int .i64) .ro x5)], [], []⟩ : ST cx)
def u5 (sf_Q67 : Y_Q67) (k n3 : Nat) : T5 := fun x0 x1 x5 => uK (run (E sf_Q67) h k c8) (s5 x0 x1 x5) (K17 sf_Q67 k n3)
abbrev l5 (sf_Q67 : Y_Q67) (k n3 : Nat) : T5 := fun x0 x1 x5 => cutK (run (E sf_Q67) h k c8) (s5 x0 x1 x5) (K17 sf_Q67 k n3)
abbrev s6 := fun x1 => (⟨[(1, .v (.int .i64) .ro x1)], [], []⟩ : ST cx)
def u6 (sf_Q67 : Y_Q67) (k : Nat) : T6 := fun x1 => uK (run (E sf_Q67) h k c5) (s6 x1) (K11 sf_Q67 k)
abbrev l6 (sf_Q67 : Y_Q67) (k : Nat) : T6 := fun x1 => cutK (run (E sf_Q67) h k c5) (s6 x1) (K11 sf_Q67 k)
abbrev s4 := fun x0 x1 x5 x25 => (⟨[(0, .v (.ptr 1) .ro x0), (1, .v (.int .i64) .ro x1), (5, .v (.int .i64) .ro x5), (25, .v .bool .ro x25)], [], []⟩ : ST cx)
def u4 (sf_Q67 : Y_Q67) (k n3 : Nat) : T4 := fun x0 x1 x5 x25 => uK (run (E sf_Q67) h k c9) (s4 x0 x1 x5 x25) (K19 sf_Q67 k n3)
abbrev l4 (sf_Q67 : Y_Q67) (k n3 : Nat) : T4 := fun x0 x1 x5 x25 => cutK (run (E sf_Q67) h k c9) (s4 x0 x1 x5 x25) (K19 sf_Q67 k n3)
abbrev s3 := fun x0 x1 x5 => (⟨[(0, .v (.ptr 1) .ro x0), (1, .v (.int .i64) .ro x1), (5, .v (.int .i64) .ro x5)], [], []⟩ : ST cx)
def u3 (sf_Q67 : Y_Q67) (k n3 : Nat) : T3 := fun x0 x1 x5 => uK (loopL (E sf_Q67) h k c7 (K15 sf_Q67 k) n3) (s3 x0 x1 x5) ()
abbrev l3 (sf_Q67 : Y_Q67) (k n3 : Nat) : T3 := fun x0 x1 x5 => cutK (loopL (E sf_Q67) h k c7 (K15 sf_Q67 k) n3) (s3 x0 x1 x5) ()
abbrev s2 := fun x0 x1 => (⟨[(0, .v (.ptr 1) .ro x0), (1, .v (.int .i64) .ro x1)], [], []⟩ : ST cx)
def u2 (sf_Q67 : Y_Q67) (k : Nat) : T2 := fun x0 x1 => uK (run (E sf_Q67) h k c2) (s2 x0 x1) (K5 sf_Q67 k)
abbrev l2 (sf_Q67 : Y_Q67) (k : Nat) : T2 := fun x0 x1 => cutK (run (E sf_Q67) h k c2) (s2 x0 x1) (K5 sf_Q67 k)
abbrev s1 := fun x0 x1 x13 => (⟨[(0, .v (.ptr 1) .ro x0), (1, .v (.int .i64) .ro x1), (13, .v .bool .ro x13)], [], []⟩ : ST cx)
def u1 (sf_Q67 : Y_Q67) (k : Nat) : T1 := fun x0 x1 x13 => uK (run (E sf_Q67) h k c3) (s1 x0 x1 x13) (K7 sf_Q67 k)
abbrev l1 (sf_Q67 : Y_Q67) (k : Nat) : T1 := fun x0 x1 x13 => cutK (run (E sf_Q67) h k c3) (s1 x0 x1 x13) (K7 sf_Q67 k)
def u0 (sf_Q67 : Y_Q67) (k : Nat) : T0 := fun x0 x1 => runOf (S := cx) (E sf_Q67) h k Try.f32 [.val (.ptr 1), .val (.int .i64)] (.int .i64) .ro (x0, x1, ())
def t5 (sf_Q67 : Y_Q67) (f3 : T3) : T5 := fun x0 x1 x5 => (bindR x0 fun z2 => (wnR x5 (List.length (out1 z2).2.2.2.1) fun q3 => (bindR (sf_Q67 ((List.getD (out1 z2).2.2.2.1 q3 none), (x1, ()))) fun r4 => (f3 x0 r4.1 (w64 (x5 + (1 : Int)))))))
theorem e5 (sf_Q67 : Y_Q67) (k n3 : Nat) : u5 sf_Q67 k n3 = t5 sf_Q67 (l3 sf_Q67 k n3) := by kernel_rfl
theorem g5 (sf_Q67 : Y_Q67) (k n3 : Nat) : l5 sf_Q67 k n3 = u5 sf_Q67 k n3 := funext fun _ => funext fun _ => funext fun _ => cut_u _ _ _
def p5 (sf_Q67 : Y_Q67) (k : Nat) (a3 : T3) : T5 := t5 sf_Q67 a3
theorem o5 (sf_Q67 : Y_Q67) (k n3 : Nat) (a3 : T3) (h3 : l3 sf_Q67 k n3 = a3) : l5 sf_Q67 k n3 = p5 sf_Q67 k a3 := (Eq.trans (b := u5 sf_Q67 k n3) (g5 sf_Q67 k n3) (Eq.trans (b := t5 sf_Q67 (l3 sf_Q67 k n3)) (e5 sf_Q67 k n3) (Eq.trans (b := t5 sf_Q67 a3) (congrArg (t5 sf_Q67) h3) (by kernel_rfl))))
def t6 (sf_Q67 : Y_Q67) : T6 := fun x1 => (some (x1, ()))
theorem e6 (sf_Q67 : Y_Q67) (k : Nat) : u6 sf_Q67 k = t6 sf_Q67 := by kernel_rfl
theorem g6 (sf_Q67 : Y_Q67) (k : Nat) : l6 sf_Q67 k = u6 sf_Q67 k := funext fun _ => cut_u _ _ _
def p6 (sf_Q67 : Y_Q67) (k : Nat) : T6 := t6 sf_Q67
theorem o6 (sf_Q67 : Y_Q67) (k : Nat) : l6 sf_Q67 k = p6 sf_Q67 k := (Eq.trans (b := u6 sf_Q67 k) (g6 sf_Q67 k) (Eq.trans (b := t6 sf_Q67) (e6 sf_Q67 k) (by kernel_rfl)))
def t4 (sf_Q67 : Y_Q67) (f5 : T5) (f6 : T6) : T4 := fun x0 x1 x5 x25 => (iteB x25 (f5 x0 x1 x5) (f6 x1))
theorem e4 (sf_Q67 : Y_Q67) (k n3 : Nat) : u4 sf_Q67 k n3 = t4 sf_Q67 (l5 sf_Q67 k n3) (l6 sf_Q67 k) := by kernel_rfl
theorem g4 (sf_Q67 : Y_Q67) (k n3 : Nat) : l4 sf_Q67 k n3 = u4 sf_Q67 k n3 := funext fun _ => funext fun _ => funext fun _ => funext fun _ => cut_u _ _ _
def p4 (sf_Q67 : Y_Q67) (k : Nat) (a3 : T3) : T4 := t4 sf_Q67 (p5 sf_Q67 k a3) (p6 sf_Q67 k)
theorem o4 (sf_Q67 : Y_Q67) (k n3 : Nat) (a3 : T3) (h3 : l3 sf_Q67 k n3 = a3) : l4 sf_Q67 k n3 = p4 sf_Q67 k a3 := (Eq.trans (b := u4 sf_Q67 k n3) (g4 sf_Q67 k n3) (Eq.trans (b := t4 sf_Q67 (l5 sf_Q67 k n3) (l6 sf_Q67 k)) (e4 sf_Q67 k n3) (Eq.trans (b := t4 sf_Q67 (p5 sf_Q67 k a3) (p6 sf_Q67 k)) (congr (congrArg (t4 sf_Q67) (o5 sf_Q67 k n3 a3 h3)) (o6 sf_Q67 k)) (by kernel_rfl))))
def t3 (sf_Q67 : Y_Q67) (f4 : T4) : T3 := fun x0 x1 x5 => (bindR x0 fun z1 => (iteB (decide (x5 < ((List.length (out1 z1).2.2.2.1 : Nat) : Int))) (f4 x0 x1 x5 (decide (x1 ≤ (3000 : Int)))) (f4 x0 x1 x5 false)))
theorem e3 (sf_Q67 : Y_Q67) (k n3 : Nat) : u3 sf_Q67 k (n3 + 1) = t3 sf_Q67 (l4 sf_Q67 k n3) := by kernel_rfl
theorem g3 (sf_Q67 : Y_Q67) (k n3 : Nat) : l3 sf_Q67 k (n3 + 1) = u3 sf_Q67 k (n3 + 1) := funext fun _ => funext fun _ => funext fun _ => cut_u _ _ _
def p3 (sf_Q67 : Y_Q67) (k : Nat) : Nat → T3
  | 0 => fun _ _ _ => none
  | n3 + 1 => t3 sf_Q67 (p4 sf_Q67 k (p3 sf_Q67 k n3))
theorem o3 (sf_Q67 : Y_Q67) (k : Nat) : ∀ n3, l3 sf_Q67 k n3 = p3 sf_Q67 k n3 := by
  intro n3
  induction n3 with
  | zero => kernel_rfl
  | succ n3 ih => exact (Eq.trans (b := u3 sf_Q67 k (n3 + 1)) (g3 sf_Q67 k n3) (Eq.trans (b := t3 sf_Q67 (l4 sf_Q67 k n3)) (e3 sf_Q67 k n3) (Eq.trans (b := t3 sf_Q67 (p4 sf_Q67 k (p3 sf_Q67 k n3))) (congrArg (t3 sf_Q67) (o4 sf_Q67 k n3 (p3 sf_Q67 k n3) ih)) (by kernel_rfl))))
def t2 (sf_Q67 : Y_Q67) (f3 : T3) : T2 := fun x0 x1 => (f3 x0 x1 (0 : Int))
theorem e2 (sf_Q67 : Y_Q67) (k : Nat) : u2 sf_Q67 k = t2 sf_Q67 (l3 sf_Q67 k k) := by kernel_rfl
theorem g2 (sf_Q67 : Y_Q67) (k : Nat) : l2 sf_Q67 k = u2 sf_Q67 k := funext fun _ => funext fun _ => cut_u _ _ _
def p2 (sf_Q67 : Y_Q67) (k : Nat) : T2 := t2 sf_Q67 (p3 sf_Q67 k k)
theorem o2 (sf_Q67 : Y_Q67) (k : Nat) : l2 sf_Q67 k = p2 sf_Q67 k := (Eq.trans (b := u2 sf_Q67 k) (g2 sf_Q67 k) (Eq.trans (b := t2 sf_Q67 (l3 sf_Q67 k k)) (e2 sf_Q67 k) (Eq.trans (b := t2 sf_Q67 (p3 sf_Q67 k k)) (congrArg (t2 sf_Q67) (o3 sf_Q67 k k)) (by kernel_rfl))))
def t1 (sf_Q67 : Y_Q67) (f2 : T2) : T1 := fun x0 x1 x13 => (iteB x13 (some (x1, ())) (f2 x0 x1))
theorem e1 (sf_Q67 : Y_Q67) (k : Nat) : u1 sf_Q67 k = t1 sf_Q67 (l2 sf_Q67 k) := by kernel_rfl
theorem g1 (sf_Q67 : Y_Q67) (k : Nat) : l1 sf_Q67 k = u1 sf_Q67 k := funext fun _ => funext fun _ => funext fun _ => cut_u _ _ _
def p1 (sf_Q67 : Y_Q67) (k : Nat) : T1 := t1 sf_Q67 (p2 sf_Q67 k)
theorem o1 (sf_Q67 : Y_Q67) (k : Nat) : l1 sf_Q67 k = p1 sf_Q67 k := (Eq.trans (b := u1 sf_Q67 k) (g1 sf_Q67 k) (Eq.trans (b := t1 sf_Q67 (l2 sf_Q67 k)) (e1 sf_Q67 k) (Eq.trans (b := t1 sf_Q67 (p2 sf_Q67 k)) (congrArg (t1 sf_Q67) (o2 sf_Q67 k)) (by kernel_rfl))))
def t0 (sf_Q67 : Y_Q67) (f1 : T1) : T0 := fun x0 x1 => (iteB (Option.isNone x0) (f1 x0 (w64 (x1 + (1 : Int))) true) (f1 x0 (w64 (x1 + (1 : Int))) (decide ((3000 : Int) < (w64 (x1 + (1 : Int)))))))
theorem e0 (sf_Q67 : Y_Q67) (k : Nat) : u0 sf_Q67 k = t0 sf_Q67 (l1 sf_Q67 k) := by kernel_rfl
def p0 (sf_Q67 : Y_Q67) (k : Nat) : T0 := t0 sf_Q67 (p1 sf_Q67 k)
theorem o0 (sf_Q67 : Y_Q67) (k : Nat) : u0 sf_Q67 k = p0 sf_Q67 k := (Eq.trans (b := t0 sf_Q67 (l1 sf_Q67 k)) (e0 sf_Q67 k) (Eq.trans (b := t0 sf_Q67 (p1 sf_Q67 k)) (congrArg (t0 sf_Q67) (o1 sf_Q67 k)) (by kernel_rfl)))
end Q67
def r_Q67 : Nat → ((Option N1) × (Int × Unit)) → Option (Int × Unit)
  | 0, _ => none
  | n + 1, a => Q67.p0 (r_Q67 n) fuel a.1 a.2.1
theorem okr_Q67 : ∀ n, FnOk Try.prog (Fr_Q67 (r_Q67 n)) 32
  | 0 => fn_none (fun _ => rfl)
  | n + 1 => fn_of (F := Fr_Q67 (r_Q67 (n + 1))) (hn := Q67.h) (E := Q67.E (r_Q67 n)) cxOk (tysT _ _) (fs_cons (okr_Q67 n) fs_nil) follows Try.func32 (by kernel_rfl) (fun a r h => ⟨fuel, Eq.trans (c := some r) (congrFun (congrFun (Q67.o0 (r_Q67 n) fuel) a.1) a.2.1) h⟩)
def s_Q67 (a : (Option N1) × (Int × Unit)) : Option (Int × Unit) := r_Q67 fuel a
def F_Q67 : FSpec cx.toNm := Fr_Q67 s_Q67
theorem ok_Q67 : FnOk Try.prog F_Q67 32 := fun w Z own vs a r h1 h2 h3 h4 => (okr_Q67 fuel) w Z own vs a r h1 h2 h3 h4
namespace Q68
def E : Env cx := { tys := tys, fs := fsOf [(32, F_Q67)] }
abbrev R := Option (Bool × Unit)
abbrev C := Exit → ST cx → R
noncomputable def b : Code := bodyC Try.f10
def h : Hint := { vs := [0, 2], nil := [], cuts := [], ret := ([2], []), ords := [] }
abbrev T0 := (Option N1) → R
def u0 (k : Nat) : T0 := fun x0 => runOf (S := cx) E h k Try.f10 [.val (.ptr 1)] .bool .ro (x0, ())
def t0 : T0 := fun x0 => (bindR (s_Q67 (x0, ((0 : Int), ()))) fun r1 => (some ((decide ((3000 : Int) < r1.1)), ())))
theorem e0 (k : Nat) : u0 k = t0 := by kernel_rfl
def p0 (k : Nat) : T0 := t0
theorem o0 (k : Nat) : u0 k = p0 k := (Eq.trans (b := t0) (e0 k) (by kernel_rfl))
end Q68
def s_Q68 (a : (Option N1) × Unit) : Option (Bool × Unit) := Q68.p0 fuel a.1
def F_Q68 : FSpec cx.toNm := { ps := [.val (.ptr 1)], nres := 1, rt := .bool, rm := .ro, f := s_Q68 }
theorem w_Q68 (a : (Option N1) × Unit) : runOf (S := cx) Q68.E Q68.h fuel Try.f10 F_Q68.ps F_Q68.rt F_Q68.rm a = F_Q68.f a := Eq.trans (b := Q68.u0 fuel a.1) (by kernel_rfl) (Eq.trans (b := Q68.p0 fuel a.1) (congrFun (Q68.o0 fuel) a.1) (by kernel_rfl))
theorem ok_Q68 : FnOk Try.prog F_Q68 10 := fn_of (hn := Q68.h) (E := Q68.E) cxOk (tysT _ _) (fs_cons ok_Q67 fs_nil) follows Try.func10 (by kernel_rfl) (fun a r h => ⟨fuel, Eq.trans (w_Q68 a) h⟩)
namespace Q69
def E : Env cx := { tys := tys, fs := fsOf [] }
abbrev R := Option ((Option N1) × Unit)
abbrev C := Exit → ST cx → R
noncomputable def b : Code := bodyC Try.f11
def h : Hint := { vs := [0, 1, 4], nil := [], cuts := [], ret := ([4], [8]), ords := [] }
abbrev T0 := Int → (List UInt8) → R
def u0 (k : Nat) : T0 := fun x0 x1 => runOf (S := cx) E h k Try.f11 [.val (.int .i64), .val .str] (.ptr 1) .ro (x0, x1, ())
def t0 : T0 := fun x0 x1 => (some ((some (pk1 (x0, ((-1 : Int), (x1, (([] : List (Option N1)), ((1 : Int), (0 : Int)))))))), ()))
theorem e0 (k : Nat) : u0 k = t0 := by kernel_rfl
def p0 (k : Nat) : T0 := t0
theorem o0 (k : Nat) : u0 k = p0 k := (Eq.trans (b := t0) (e0 k) (by kernel_rfl))
end Q69
def s_Q69 (a : Int × ((List UInt8) × Unit)) : Option ((Option N1) × Unit) := Q69.p0 fuel a.1 a.2.1
def F_Q69 : FSpec cx.toNm := { ps := [.val (.int .i64), .val .str], nres := 1, rt := (.ptr 1), rm := .ro, f := s_Q69 }
theorem w_Q69 (a : Int × ((List UInt8) × Unit)) : runOf (S := cx) Q69.E Q69.h fuel Try.f11 F_Q69.ps F_Q69.rt F_Q69.rm a = F_Q69.f a := Eq.trans (b := Q69.u0 fuel a.1 a.2.1) (by kernel_rfl) (Eq.trans (b := Q69.p0 fuel a.1 a.2.1) (congrFun (congrFun (Q69.o0 fuel) a.1) a.2.1) (by kernel_rfl))
theorem ok_Q69 : FnOk Try.prog F_Q69 11 := fn_of (hn := Q69.h) (E := Q69.E) cxOk (tysT _ _) fs_nil follows Try.func11 (by kernel_rfl) (fun a r h => ⟨fuel, Eq.trans (w_Q69 a) h⟩)
namespace Q70
def E : Env cx := { tys := tys, fs := fsOf [(19, F_Q64)] }
abbrev R := Option (Bool × Unit)
abbrev C := Exit → ST cx → R
noncomputable def b : Code := bodyC Try.f38
def h : Hint := { vs := [0, 1, 3], nil := [], cuts := [], ret := ([3], []), ords := [] }
abbrev T0 := (Option N1) → D0 → R
def u0 (k : Nat) : T0 := fun x0 x1 => runOf (S := cx) E h k Try.f38 [.val (.ptr 1), .val (.box ty0)] .bool .ro (x0, x1, ())
def t0 : T0 := fun x0 x1 => (bindR (s_Q64 (x1, (x0, ()))) fun r1 => (some ((notB r1.1), ())))
theorem e0 (k : Nat) : u0 k = t0 := by kernel_rfl
def p0 (k : Nat) : T0 := t0
theorem o0 (k : Nat) : u0 k = p0 k := (Eq.trans (b := t0) (e0 k) (by kernel_rfl))
end Q70
def s_Q70 (a : (Option N1) × (D0 × Unit)) : Option (Bool × Unit) := Q70.p0 fuel a.1 a.2.1
def F_Q70 : FSpec cx.toNm := { ps := [.val (.ptr 1), .val (.box ty0)], nres := 1, rt := .bool, rm := .ro, f := s_Q70 }
theorem w_Q70 (a : (Option N1) × (D0 × Unit)) : runOf (S := cx) Q70.E Q70.h fuel Try.f38 F_Q70.ps F_Q70.rt F_Q70.rm a = F_Q70.f a := Eq.trans (b := Q70.u0 fuel a.1 a.2.1) (by kernel_rfl) (Eq.trans (b := Q70.p0 fuel a.1 a.2.1) (congrFun (congrFun (Q70.o0 fuel) a.1) a.2.1) (by kernel_rfl))
theorem ok_Q70 : FnOk Try.prog F_Q70 38 := fn_of (hn := Q70.h) (E := Q70.E) cxOk (tysT _ _) (fs_cons ok_Q64 fs_nil) follows Try.func38 (by kernel_rfl) (fun a r h => ⟨fuel, Eq.trans (w_Q70 a) h⟩)
namespace Q71
def E : Env cx := { tys := tys, fs := fsOf [(38, F_Q70)] }
abbrev R := Option (Int × Unit)
abbrev C := Exit → ST cx → R
noncomputable def b : Code := bodyC Try.f65
def h : Hint := { vs := [0, 1, 4, 5, 7, 8], nil := [], cuts := [(2, ([0, 1, 7, 8], []), ([], [])), (7, ([], []), ([], []))], ret := ([4], []), ords := [] }
def K0 : C := fin (S := cx) E Try.f65.results.toList (.int .i64) .ro [] []
def c0 : Code := subC b [1]
def K1 (k : Nat) : C := outD h c0 K0
def c1 : Code := subC b [1, 1]
def K3 (k : Nat) : C := outD h c1 (K1 k)
def K4 (k : Nat) : C := seqC E h k c1 (K1 k)
def c2 : Code := subC b [1, 0, 1]
def K5 (k : Nat) : C := outD h c2 (K4 k)
def K7 (k : Nat) : C := blockK 0 (K5 k)
def c3 : Code := subC b [1, 0, 1, 0, 0]
abbrev T2 := R
abbrev T1 := (List (Option N1)) → (D0 × Unit) → Int → Int → R
abbrev T0 := (List (Option N1)) → (D0 × Unit) → R
abbrev s2 : ST cx := (⟨[], [], []⟩ : ST cx)
def u2 (k : Nat) : T2 := uK (run E h k c1) s2 (K3 k)
abbrev l2 (k : Nat) : T2 := cutK (run E h k c1) s2 (K3 k)
abbrev s1 := fun x0 x1 x7 x8 => (⟨[(0, .v (.slice 35 (.ptr 1)) .ro x0), (1, .v (.clo 38 (.pair (.box ty0) .unit)) .ro x1), (7, .v (.int .i64) .ro x7), (8, .v (.int .i64) .ro x8)], [], []⟩ : ST cx)
def u1 (k n1 : Nat) : T1 := fun x0 x1 x7 x8 => uK (loopL E h k c3 (K7 k) n1) (s1 x0 x1 x7 x8) ()
abbrev l1 (k n1 : Nat) : T1 := fun x0 x1 x7 x8 => cutK (loopL E h k c3 (K7 k) n1) (s1 x0 x1 x7 x8) ()
def u0 (k : Nat) : T0 := fun x0 x1 => runOf (S := cx) E h k Try.f65 [.val (.slice 35 (.ptr 1)), .val (.clo 38 (.pair (.box ty0) .unit))] (.int .i64) .ro (x0, x1, ())
def t2 : T2 := 
  (some ((-1 : Int), ()))
theorem e2 (k : Nat) : u2 k = t2 := by kernel_rfl
theorem g2 (k : Nat) : l2 k = u2 k := cut_u _ _ _
def p2 (k : Nat) : T2 := t2
theorem o2 (k : Nat) : l2 k = p2 k := (Eq.trans (b := u2 k) (g2 k) (Eq.trans (b := t2) (e2 k) (by kernel_rfl)))
def t1 (f1 : T1) (f2 : T2) : T1 := fun x0 x1 x7 x8 => (iteB (decide (x8 < x7)) (wnR x8 (List.length x0) fun q1 => (bindR (s_Q70 ((List.getD x0 q1 none), (x1.1, ()))) fun r2 => (iteB r2.1 (some (x8, ())) (f1 x0 x1 x7 (w64 (x8 + (1 : Int))))))) f2)
theorem e1 (k n1 : Nat) : u1 k (n1 + 1) = t1 (l1 k n1) (l2 k) := by kernel_rfl
theorem g1 (k n1 : Nat) : l1 k (n1 + 1) = u1 k (n1 + 1) := funext fun _ => funext fun _ => funext fun _ => funext fun _ => cut_u _ _ _
def p1 (k : Nat) : Nat → T1
  | 0 => fun _ _ _ _ => none
  | n1 + 1 => t1 (p1 k n1) (p2 k)
theorem o1 (k : Nat) : ∀ n1, l1 k n1 = p1 k n1 := by
  intro n1
  induction n1 with
  | zero => kernel_rfl
  | succ n1 ih => exact (Eq.trans (b := u1 k (n1 + 1)) (g1 k n1) (Eq.trans (b := t1 (l1 k n1) (l2 k)) (e1 k n1) (Eq.trans (b := t1 (p1 k n1) (p2 k)) (congr (congrArg t1 ih) (o2 k)) (by kernel_rfl))))
def t0 (f1 : T1) : T0 := fun x0 x1 => (f1 x0 x1 ((List.length x0 : Nat) : Int) (0 : Int))
theorem e0 (k : Nat) : u0 k = t0 (l1 k k) := by kernel_rfl
def p0 (k : Nat) : T0 := t0 (p1 k k)
theorem o0 (k : Nat) : u0 k = p0 k := (Eq.trans (b := t0 (l1 k k)) (e0 k) (Eq.trans (b := t0 (p1 k k)) (congrArg t0 (o1 k k)) (by kernel_rfl)))
end Q71
def s_Q71 (a : (List (Option N1)) × ((D0 × Unit) × Unit)) : Option (Int × Unit) := Q71.p0 fuel a.1 a.2.1
def F_Q71 : FSpec cx.toNm := { ps := [.val (.slice 35 (.ptr 1)), .val (.clo 38 (.pair (.box ty0) .unit))], nres := 1, rt := (.int .i64), rm := .ro, f := s_Q71 }
theorem w_Q71 (a : (List (Option N1)) × ((D0 × Unit) × Unit)) : runOf (S := cx) Q71.E Q71.h fuel Try.f65 F_Q71.ps F_Q71.rt F_Q71.rm a = F_Q71.f a := Eq.trans (b := Q71.u0 fuel a.1 a.2.1) (by kernel_rfl) (Eq.trans (b := Q71.p0 fuel a.1 a.2.1) (congrFun (congrFun (Q71.o0 fuel) a.1) a.2.1) (by kernel_rfl))
theorem ok_Q71 : FnOk Try.prog F_Q71 65 := fn_of (hn := Q71.h) (E := Q71.E) cxOk (tysT _ _) (fs_cons ok_Q70 fs_nil) follows Try.func65 (by kernel_rfl) (fun a r h => ⟨fuel, Eq.trans (w_Q71 a) h⟩)
namespace Q72
def E : Env cx := { tys := tys, fs := fsOf [(65, F_Q71)] }
abbrev R := Option (Bool × Unit)
abbrev C := Exit → ST cx → R
noncomputable def b : Code := bodyC Try.f37
def h : Hint := { vs := [0, 1, 4], nil := [], cuts := [], ret := ([4], []), ords := [] }
abbrev T0 := (List (Option N1)) → (D0 × Unit) → R
def u0 (k : Nat) : T0 := fun x0 x1 => runOf (S := cx) E h k Try.f37 [.val (.slice 35 (.ptr 1)), .val (.clo 38 (.pair (.box ty0) .unit))] .bool .ro (x0, x1, ())
def t0 : T0 := fun x0 x1 => (bindR (s_Q71 (x0, (x1, ()))) fun r1 => (some ((decide ((0 : Int) ≤ r1.1)), ())))
theorem e0 (k : Nat) : u0 k = t0 := by kernel_rfl
def p0 (k : Nat) : T0 := t0
theorem o0 (k : Nat) : u0 k = p0 k := (Eq.trans (b := t0) (e0 k) (by kernel_rfl))
end Q72
def s_Q72 (a : (List (Option N1)) × ((D0 × Unit) × Unit)) : Option (Bool × Unit) := Q72.p0 fuel a.1 a.2.1
def F_Q72 : FSpec cx.toNm := { ps := [.val (.slice 35 (.ptr 1)), .val (.clo 38 (.pair (.box ty0) .unit))], nres := 1, rt := .bool, rm := .ro, f := s_Q72 }
theorem w_Q72 (a : (List (Option N1)) × ((D0 × Unit) × Unit)) : runOf (S := cx) Q72.E Q72.h fuel Try.f37 F_Q72.ps F_Q72.rt F_Q72.rm a = F_Q72.f a := Eq.trans (b := Q72.u0 fuel a.1 a.2.1) (by kernel_rfl) (Eq.trans (b := Q72.p0 fuel a.1 a.2.1) (congrFun (congrFun (Q72.o0 fuel) a.1) a.2.1) (by kernel_rfl))
theorem ok_Q72 : FnOk Try.prog F_Q72 37 := fn_of (hn := Q72.h) (E := Q72.E) cxOk (tysT _ _) (fs_cons ok_Q71 fs_nil) follows Try.func37 (by kernel_rfl) (fun a r h => ⟨fuel, Eq.trans (w_Q72 a) h⟩)
namespace Q73
def E : Env cx := { tys := tys, fs := fsOf [] }
abbrev R := Option ((List (Option N1)) × Unit)
abbrev C := Exit → ST cx → R
noncomputable def b : Code := bodyC Try.f39
def h : Hint := { vs := [0, 2], nil := [(5, (.own .ro))], cuts := [], ret := ([2], []), ords := [] }
abbrev T0 := (List (Option N1)) → R
def u0 (k : Nat) : T0 := fun x0 => runOf (S := cx) E h k Try.f39 [.val (.slice 35 (.ptr 1))] (.slice 35 (.ptr 1)) .ro (x0, ())
def t0 : T0 := fun x0 => (nilR (List.isEmpty x0) (some (([] : List (Option N1)), ())) (mustR (room ([] : List (Option N1)) x0) (some ((([] : List (Option N1)) ++ x0), ()))))
theorem e0 (k : Nat) : u0 k = t0 := by kernel_rfl
def p0 (k : Nat) : T0 := t0
theorem o0 (k : Nat) : u0 k = p0 k := (Eq.trans (b := t0) (e0 k) (by kernel_rfl))
end Q73
def s_Q73 (a : (List (Option N1)) × Unit) : Option ((List (Option N1)) × Unit) := Q73.p0 fuel a.1
def F_Q73 : FSpec cx.toNm := { ps := [.val (.slice 35 (.ptr 1))], nres := 1, rt := (.slice 35 (.ptr 1)), rm := .ro, f := s_Q73 }
theorem w_Q73 (a : (List (Option N1)) × Unit) : runOf (S := cx) Q73.E Q73.h fuel Try.f39 F_Q73.ps F_Q73.rt F_Q73.rm a = F_Q73.f a := Eq.trans (b := Q73.u0 fuel a.1) (by kernel_rfl) (Eq.trans (b := Q73.p0 fuel a.1) (congrFun (Q73.o0 fuel) a.1) (by kernel_rfl))
theorem ok_Q73 : FnOk Try.prog F_Q73 39 := fn_of (hn := Q73.h) (E := Q73.E) cxOk (tysT _ _) fs_nil follows Try.func39 (by kernel_rfl) (fun a r h => ⟨fuel, Eq.trans (w_Q73 a) h⟩)
namespace Q74
def E : Env cx := { tys := tys, fs := fsOf [(36, F_Q48), (37, F_Q72), (39, F_Q73), (40, F_Q57), (41, F_Q58)], wr := true }
abbrev R := Option (((Option N1) × Int) × Unit)
abbrev C := Exit → ST cx → R
noncomputable def b : Code := bodyC Try.f15
def h : Hint := { vs := [0, 1, 2, 3, 6, 7, 8], nil := [], cuts := [(2, ([1, 2, 3, 27], [3]), ([1, 2, 3], [3])), (3, ([1, 2, 3], [3]), ([1, 2, 3], [3]))], ret := ([6, 7], [3, 40]), ords := [(3, [0, 1, 2, 3, 4, 5, 6, 7, 9, 8, 10, 11, 12, 13])], fns := [(25, [true])] }
def K0 : C := fin (S := cx) E Try.f15.results.toList (.pair (.ptr 1) (.int .i64)) .ro [] []
def c0 : Code := subC b [1]
def K1 (k : Nat) : C := outD h c0 K0
def c1 : Code := subC b [1, 1]
def K3 (k : Nat) : C := outD h c1 (K1 k)
def K4 (k : Nat) : C := seqC E h k c1 (K1 k)
def c2 : Code := subC b [1, 0, 1]
def K5 (k : Nat) : C := outD h c2 (K4 k)
abbrev T2 := Int → (List (Option N1)) → D0 → R
abbrev T1 := Int → (List (Option N1)) → Bool → D0 → R
abbrev T0 := D0 → Int → (List (Option N1)) → R
abbrev s2 := fun x1 x2 m3 => (⟨[(1, .v (.int .i64) .ro x1), (2, .v (.slice 35 (.ptr 1)) .ro x2), (3, .addr (.mem 3) [])], [], [(3, ⟨ty0, .ro, m3⟩)]⟩ : ST cx)
def u2 (k : Nat) : T2 := fun x1 x2 m3 => uK (run E h k c1) (s2 x1 x2 m3) (K3 k)
abbrev l2 (k : Nat) : T2 := fun x1 x2 m3 => cutK (run E h k c1) (s2 x1 x2 m3) (K3 k)
abbrev s1 := fun x1 x2 x27 m3 => (⟨[(1, .v (.int .i64) .ro x1), (2, .v (.slice 35 (.ptr 1)) .ro x2), (3, .addr (.mem 3) []), (27, .v .bool .ro x27)], [], [(3, ⟨ty0, .ro, m3⟩)]⟩ : ST cx)
def u1 (k : Nat) : T1 := fun x1 x2 x27 m3 => uK (run E h k c2) (s1 x1 x2 x27 m3) (K5 k)
abbrev l1 (k : Nat) : T1 := fun x1 x2 x27 m3 => cutK (run E h k c2) (s1 x1 x2 x27 m3) (K5 k)
def u0 (k : Nat) : T0 := fun x0 x1 x2 => runOf (S := cx) E h k Try.f15 [.val ty0, .val (.int .i64), .val (.slice 35 (.ptr 1))] (.pair (.ptr 1) (.int .i64)) .ro (x0, x1, x2, ())
def t2 : T2 := fun x1 x2 m3 => (wnR x1 (List.length m3.2.2.2.1) fun q3 => (bindR (s_Q73 (x2, ())) fun r4 => (bindR (s_Q57 (x2, ())) fun r5 => (bindR (s_Q58 (m3, ((some (pk1 ((List.getD m3.2.2.2.1 q3 ((0 : Int), ([] : List Int))).1, (x1, (([] : List UInt8), (r4.1, (r5.1, (0 : Int)))))))), ()))) fun r6 => (iteB (notB r6.1) (some ((none, (1 : Int)), ())) (some (((some (pk1 ((List.getD m3.2.2.2.1 q3 ((0 : Int), ([] : List Int))).1, (x1, (([] : List UInt8), (r4.1, (r5.1, (0 : Int)))))))), (0 : Int)), ())))))))
theorem e2 (k : Nat) : u2 k = t2 := by kernel_rfl
theorem g2 (k : Nat) : l2 k = u2 k := funext fun _ => funext fun _ => funext fun _ => cut_u _ _ _
def p2 (k : Nat) : T2 := t2
theorem o2 (k : Nat) : l2 k = p2 k := (Eq.trans (b := u2 k) (g2 k) (Eq.trans (b := t2) (e2 k) (by kernel_rfl)))
def t1 (f2 : T2) : T1 := fun x1 x2 x27 m3 => (iteB x27 (some ((none, (1 : Int)), ())) (f2 x1 x2 m3))
theorem e1 (k : Nat) : u1 k = t1 (l2 k) := by kernel_rfl
theorem g1 (k : Nat) : l1 k = u1 k := funext fun _ => funext fun _ => funext fun _ => funext fun _ => cut_u _ _ _
def p1 (k : Nat) : T1 := t1 (p2 k)
theorem o1 (k : Nat) : l1 k = p1 k := (Eq.trans (b := u1 k) (g1 k) (Eq.trans (b := t1 (l2 k)) (e1 k) (Eq.trans (b := t1 (p2 k)) (congrArg t1 (o2 k)) (by kernel_rfl))))
def t0 (f1 : T1) : T0 := fun x0 x1 x2 => (bindR (s_Q48 (x0, ())) fun r1 => (iteB (notB r1.1) (f1 x1 x2 true x0) (iteB (decide (x1 < (0 : Int))) (f1 x1 x2 true x0) (iteB (decide (((List.length x0.2.2.2.1 : Nat) : Int) ≤ x1)) (f1 x1 x2 true x0) (bindR (s_Q72 (x2, ((x0, ()), ()))) fun r2 => (f1 x1 x2 r2.1 x0))))))
theorem e0 (k : Nat) : u0 k = t0 (l1 k) := by kernel_rfl
def p0 (k : Nat) : T0 := t0 (p1 k)
theorem o0 (k : Nat) : u0 k = p0 k := (Eq.trans (b := t0 (l1 k)) (e0 k) (Eq.trans (b := t0 (p1 k)) (congrArg t0 (o1 k)) (by kernel_rfl)))
end Q74
def s_Q74 (a : D0 × (Int × ((List (Option N1)) × Unit))) : Option (((Option N1) × Int) × Unit) := Q74.p0 fuel a.1 a.2.1 a.2.2.1
def F_Q74 : FSpec cx.toNm := { ps := [.val ty0, .val (.int .i64), .val (.slice 35 (.ptr 1))], nres := 2, rt := (.pair (.ptr 1) (.int .i64)), rm := .ro, f := s_Q74 }
theorem w_Q74 (a : D0 × (Int × ((List (Option N1)) × Unit))) : runOf (S := cx) Q74.E Q74.h fuel Try.f15 F_Q74.ps F_Q74.rt F_Q74.rm a = F_Q74.f a := Eq.trans (b := Q74.u0 fuel a.1 a.2.1 a.2.2.1) (by kernel_rfl) (Eq.trans (b := Q74.p0 fuel a.1 a.2.1 a.2.2.1) (congrFun (congrFun (congrFun (Q74.o0 fuel) a.1) a.2.1) a.2.2.1) (by kernel_rfl))
theorem ok_Q74 : FnOk Try.prog F_Q74 15 := fn_of (hn := Q74.h) (E := Q74.E) cxOk (tysT _ _) (fs_cons ok_Q48 (fs_cons ok_Q72 (fs_cons ok_Q73 (fs_cons ok_Q57 (fs_cons ok_Q58 fs_nil))))) follows Try.func15 (by kernel_rfl) (fun a r h => ⟨fuel, Eq.trans (w_Q74 a) h⟩)
namespace Q75
def E : Env cx := { tys := tys, fs := fsOf [] }
abbrev R := Option (((Option N1) × Bool) × Unit)
abbrev C := Exit → ST cx → R
noncomputable def b : Code := bodyC Try.f28
def h : Hint := { vs := [0, 1, 4, 5, 7, 8, 9, 10], nil := [], cuts := [(2, ([0, 8, 9, 10], []), ([0], [])), (5, ([0, 7, 8, 9, 10, 28], []), ([0, 7, 8, 9, 10], [])), (6, ([0, 7, 8, 9, 10], []), ([0, 8, 9, 10], [])), (7, ([0, 8, 9, 10], []), ([0, 8, 9, 10], [])), (8, ([0], []), ([0], []))], ret := ([4, 5], []), ords := [] }
def K0 : C := fin (S := cx) E Try.f28.results.toList (.pair (.ptr 1) .bool) .ro [] []
def c0 : Code := subC b [1]
def K1 (k : Nat) : C := outD h c0 K0
def c1 : Code := subC b [1, 1]
def K3 (k : Nat) : C := outD h c1 (K1 k)
def K4 (k : Nat) : C := seqC E h k c1 (K1 k)
def c2 : Code := subC b [1, 0, 1]
def K5 (k : Nat) : C := outD h c2 (K4 k)
def K7 (k : Nat) : C := blockK 0 (K5 k)
def c3 : Code := subC b [1, 0, 1, 0, 0]
def K8 (k n1 : Nat) : C := loopD E h k c3 (K7 k) n1
def c4 : Code := subC b [1, 0, 1, 0, 0, 1]
def K9 (k n1 : Nat) : C := outD h c4 (K8 k n1)
def c5 : Code := subC b [1, 0, 1, 0, 0, 1, 1]
def K11 (k n1 : Nat) : C := outD h c5 (K9 k n1)
def c6 : Code := subC b [1, 0, 1, 0, 0, 1, 1, 1]
def K13 (k n1 : Nat) : C := outD h c6 (K11 k n1)
def K14 (k n1 : Nat) : C := seqC E h k c6 (K11 k n1)
def K15 (k n1 : Nat) : C := blockK 1 (K14 k n1)
def c7 : Code := subC b [1, 0, 1, 0, 0, 1, 1, 0, 0, 1]
def K16 (k n1 : Nat) : C := outD h c7 (K15 k n1)
def c8 : Code := subC b [1, 0, 1, 0, 0, 1, 1, 0, 0, 1, 1]
def K18 (k n1 : Nat) : C := outD h c8 (K16 k n1)
def K19 (k n1 : Nat) : C := seqC E h k c8 (K16 k n1)
def c9 : Code := subC b [1, 0, 1, 0, 0, 1, 1, 0, 0, 1, 0, 1]
def K20 (k n1 : Nat) : C := outD h c9 (K19 k n1)
abbrev T5 := (Option N1) → (List Int) → Int → Int → R
abbrev T4 := (Option N1) → Int → (List Int) → Int → Int → R
abbrev T2 := (Option N1) → Int → (List Int) → Int → Int → Bool → R
abbrev T3 := (Option N1) → R
abbrev T1 := (Option N1) → (List Int) → Int → Int → R
abbrev T0 := (Option N1) → (List Int) → R
abbrev s5 := fun x0 x8 x9 x10 => (⟨[(0, .v (.ptr 1) .ro x0), (8, .v (.slice 3 (.int .i64)) .ro x8), (9, .v (.int .i64) .ro x9), (10, .v (.int .i64) .ro x10)], [], []⟩ : ST cx)
def u5 (k n1 : Nat) : T5 := fun x0 x8 x9 x10 => uK (run E h k c6) (s5 x0 x8 x9 x10) (K13 k n1)
abbrev l5 (k n1 : Nat) : T5 := fun x0 x8 x9 x10 => cutK (run E h k c6) (s5 x0 x8 x9 x10) (K13 k n1)
abbrev s4 := fun x0 x7 x8 x9 x10 => (⟨[(0, .v (.ptr 1) .ro x0), (7, .v (.int .i64) .ro x7), (8, .v (.slice 3 (.int .i64)) .ro x8), (9, .v (.int .i64) .ro x9), (10, .v (.int .i64) .ro x10)], [], []⟩ : ST cx)
def u4 (k n1 : Nat) : T4 := fun x0 x7 x8 x9 x10 => uK (run E h k c8) (s4 x0 x7 x8 x9 x10) (K18 k n1)
abbrev l4 (k n1 : Nat) : T4 := fun x0 x7 x8 x9 x10 => cutK (run E h k c8) (s4 x0 x7 x8 x9 x10) (K18 k n1)
abbrev s2 := fun x0 x7 x8 x9 x10 x28 => (⟨[(0, .v (.ptr 1) .ro x0), (7, .v (.int .i64) .ro x7), (8, .v (.slice 3 (.int .i64)) .ro x8), (9, .v (.int .i64) .ro x9), (10, .v (.int .i64) .ro x10), (28, .v .bool .ro x28)], [], []⟩ : ST cx)
def u2 (k n1 : Nat) : T2 := fun x0 x7 x8 x9 x10 x28 => uK (run E h k c9) (s2 x0 x7 x8 x9 x10 x28) (K20 k n1)
abbrev l2 (k n1 : Nat) : T2 := fun x0 x7 x8 x9 x10 x28 => cutK (run E h k c9) (s2 x0 x7 x8 x9 x10 x28) (K20 k n1)
abbrev s3 := fun x0 => (⟨[(0, .v (.ptr 1) .ro x0)], [], []⟩ : ST cx)
def u3 (k : Nat) : T3 := fun x0 => uK (run E h k c1) (s3 x0) (K3 k)
abbrev l3 (k : Nat) : T3 := fun x0 => cutK (run E h k c1) (s3 x0) (K3 k)
abbrev s1 := fun x0 x8 x9 x10 => (⟨[(0, .v (.ptr 1) .ro x0), (8, .v (.slice 3 (.int .i64)) .ro x8), (9, .v (.int .i64) .ro x9), (10, .v (.int .i64) .ro x10)], [], []⟩ : ST cx)
def u1 (k n1 : Nat) : T1 := fun x0 x8 x9 x10 => uK (loopL E h k c3 (K7 k) n1) (s1 x0 x8 x9 x10) ()
abbrev l1 (k n1 : Nat) : T1 := fun x0 x8 x9 x10 => cutK (loopL E h k c3 (K7 k) n1) (s1 x0 x8 x9 x10) ()
def u0 (k : Nat) : T0 := fun x0 x1 => runOf (S := cx) E h k Try.f28 [.val (.ptr 1), .val (.slice 3 (.int .i64))] (.pair (.ptr 1) .bool) .ro (x0, x1, ())
def t5 (f1 : T1) : T5 := fun x0 x8 x9 x10 => (f1 x0 x8 x9 (w64 (x10 + (1 : Int))))
theorem e5 (k n1 : Nat) : u5 k n1 = t5 (l1 k n1) := by kernel_rfl
theorem g5 (k n1 : Nat) : l5 k n1 = u5 k n1 := funext fun _ => funext fun _ => funext fun _ => funext fun _ => cut_u _ _ _
def p5 (k : Nat) (a1 : T1) : T5 := t5 a1
theorem o5 (k n1 : Nat) (a1 : T1) (h1 : l1 k n1 = a1) : l5 k n1 = p5 k a1 := (Eq.trans (b := u5 k n1) (g5 k n1) (Eq.trans (b := t5 (l1 k n1)) (e5 k n1) (Eq.trans (b := t5 a1) (congrArg t5 h1) (by kernel_rfl))))
def t4 (f5 : T5) : T4 := fun x0 x7 x8 x9 x10 => (bindR x0 fun z3 => (wnR x7 (List.length (out1 z3).2.2.2.1) fun q4 => (f5 (List.getD (out1 z3).2.2.2.1 q4 none) x8 x9 x10)))
theorem e4 (k n1 : Nat) : u4 k n1 = t4 (l5 k n1) := by kernel_rfl
theorem g4 (k n1 : Nat) : l4 k n1 = u4 k n1 := funext fun _ => funext fun _ => funext fun _ => funext fun _ => funext fun _ => cut_u _ _ _
def p4 (k : Nat) (a1 : T1) : T4 := t4 (p5 k a1)
theorem o4 (k n1 : Nat) (a1 : T1) (h1 : l1 k n1 = a1) : l4 k n1 = p4 k a1 := (Eq.trans (b := u4 k n1) (g4 k n1) (Eq.trans (b := t4 (l5 k n1)) (e4 k n1) (Eq.trans (b := t4 (p5 k a1)) (congrArg t4 (o5 k n1 a1 h1)) (by kernel_rfl))))
def t2 (f4 : T4) : T2 := fun x0 x7 x8 x9 x10 x28 => (iteB x28 (some ((none, false), ())) (f4 x0 x7 x8 x9 x10))
theorem e2 (k n1 : Nat) : u2 k n1 = t2 (l4 k n1) := by kernel_rfl
theorem g2 (k n1 : Nat) : l2 k n1 = u2 k n1 := funext fun _ => funext fun _ => funext fun _ => funext fun _ => funext fun _ => funext fun _ => cut_u _ _ _
def p2 (k : Nat) (a1 : T1) : T2 := t2 (p4 k a1)
theorem o2 (k n1 : Nat) (a1 : T1) (h1 : l1 k n1 = a1) : l2 k n1 = p2 k a1 := (Eq.trans (b := u2 k n1) (g2 k n1) (Eq.trans (b := t2 (l4 k n1)) (e2 k n1) (Eq.trans (b := t2 (p4 k a1)) (congrArg t2 (o4 k n1 a1 h1)) (by kernel_rfl))))
def t3 : T3 := fun x0 => (some ((x0, (!(Option.isNone x0))), ()))
theorem e3 (k : Nat) : u3 k = t3 := by kernel_rfl
theorem g3 (k : Nat) : l3 k = u3 k := funext fun _ => cut_u _ _ _
def p3 (k : Nat) : T3 := t3
theorem o3 (k : Nat) : l3 k = p3 k := (Eq.trans (b := u3 k) (g3 k) (Eq.trans (b := t3) (e3 k) (by kernel_rfl)))
def t1 (f2 : T2) (f3 : T3) : T1 := fun x0 x8 x9 x10 => (iteB (decide (x10 < x9)) (wnR x10 (List.length x8) fun q1 => (iteB (Option.isNone x0) (f2 x0 (List.getD x8 q1 (0 : Int)) x8 x9 x10 true) (iteB (decide ((List.getD x8 q1 (0 : Int)) < (0 : Int))) (f2 x0 (List.getD x8 q1 (0 : Int)) x8 x9 x10 true) (bindR x0 fun z2 => (f2 x0 (List.getD x8 q1 (0 : Int)) x8 x9 x10 (decide (((List.length (out1 z2).2.2.2.1 : Nat) : Int) ≤ (List.getD x8 q1 (0 : Int))))))))) (f3 x0))
theorem e1 (k n1 : Nat) : u1 k (n1 + 1) = t1 (l2 k n1) (l3 k) := by kernel_rfl
theorem g1 (k n1 : Nat) : l1 k (n1 + 1) = u1 k (n1 + 1) := funext fun _ => funext fun _ => funext fun _ => funext fun _ => cut_u _ _ _
def p1 (k : Nat) : Nat → T1
  | 0 => fun _ _ _ _ => none
  | n1 + 1 => t1 (p2 k (p1 k n1)) (p3 k)
theorem o1 (k : Nat) : ∀ n1, l1 k n1 = p1 k n1 := by
  intro n1
  induction n1 with
  | zero => kernel_rfl
  | succ n1 ih => exact (Eq.trans (b := u1 k (n1 + 1)) (g1 k n1) (Eq.trans (b := t1 (l2 k n1) (l3 k)) (e1 k n1) (Eq.trans (b := t1 (p2 k (p1 k n1)) (p3 k)) (congr (congrArg t1 (o2 k n1 (p1 k n1) ih)) (o3 k)) (by kernel_rfl))))
def t0 (f1 : T1) : T0 := fun x0 x1 => (f1 x0 x1 ((List.length x1 : Nat) : Int) (0 : Int))
theorem e0 (k : Nat) : u0 k = t0 (l1 k k) := by kernel_rfl
def p0 (k : Nat) : T0 := t0 (p1 k k)
theorem o0 (k : Nat) : u0 k = p0 k := (Eq.trans (b := t0 (l1 k k)) (e0 k) (Eq.trans (b := t0 (p1 k k)) (congrArg t0 (o1 k k)) (by kernel_rfl)))
end Q75
def s_Q75 (a : (Option N1) × ((List Int) × Unit)) : Option (((Option N1) × Bool) × Unit) := Q75.p0 fuel a.1 a.2.1
def F_Q75 : FSpec cx.toNm := { ps := [.val (.ptr 1), .val (.slice 3 (.int .i64))], nres := 2, rt := (.pair (.ptr 1) .bool), rm := .ro, f := s_Q75 }
theorem w_Q75 (a : (Option N1) × ((List Int) × Unit)) : runOf (S := cx) Q75.E Q75.h fuel Try.f28 F_Q75.ps F_Q75.rt F_Q75.rm a = F_Q75.f a := Eq.trans (b := Q75.u0 fuel a.1 a.2.1) (by kernel_rfl) (Eq.trans (b := Q75.p0 fuel a.1 a.2.1) (congrFun (congrFun (Q75.o0 fuel) a.1) a.2.1) (by kernel_rfl))
theorem ok_Q75 : FnOk Try.prog F_Q75 28 := fn_of (hn := Q75.h) (E := Q75.E) cxOk (tysT _ _) fs_nil follows Try.func28 (by kernel_rfl) (fun a r h => ⟨fuel, Eq.trans (w_Q75 a) h⟩)
namespace Q76
def E : Env cx := { tys := tys, fs := fsOf [] }
abbrev R := Option (D0 × Unit)
abbrev C := Exit → ST cx → R
noncomputable def b : Code := bodyC Try.f30
def h : Hint := { vs := [0], nil := [], cuts := [], ret := ([0], [0]), ords := [] }
abbrev T0 := R
def u0 (k : Nat) : T0 := runOf (S := cx) E h k Try.f30 [] ty0 .ro (())
def t0 : T0 := 
  (some ((([([97] : List UInt8), ([] : List UInt8), ([115] : List UInt8)] : List (List UInt8)), ((1 : Int), ((2 : Int), (([((2 : Int), ([(0 : Int), (2 : Int)] : List Int)), ((2 : Int), ([(0 : Int)] : List Int))] : List (Int × (List Int))), (([(0 : Int)] : List Int), (([(0 : Int)] : List Int), (([] : List (List Int)), (([] : List (List Int)), ([] : List (List Int)))))))))), ()))
theorem e0 (k : Nat) : u0 k = t0 := by kernel_rfl
def p0 (k : Nat) : T0 := t0
theorem o0 (k : Nat) : u0 k = p0 k := (Eq.trans (b := t0) (e0 k) (by kernel_rfl))
end Q76
def s_Q76 (a : Unit) : Option (D0 × Unit) := Q76.p0 fuel
def F_Q76 : FSpec cx.toNm := { ps := [], nres := 1, rt := ty0, rm := .ro, f := s_Q76 }
theorem w_Q76 (a : Unit) : runOf (S := cx) Q76.E Q76.h fuel Try.f30 F_Q76.ps F_Q76.rt F_Q76.rm a = F_Q76.f a := Eq.trans (b := Q76.u0 fuel) (by kernel_rfl) (Eq.trans (b := Q76.p0 fuel) (Q76.o0 fuel) (by kernel_rfl))
theorem ok_Q76 : FnOk Try.prog F_Q76 30 := fn_of (hn := Q76.h) (E := Q76.E) cxOk (tysT _ _) fs_nil follows Try.func30 (by kernel_rfl) (fun a r h => ⟨fuel, Eq.trans (w_Q76 a) h⟩)
namespace Q77
def E : Env cx := { tys := tys, fs := fsOf [] }
abbrev R := Option ((List UInt8) × Unit)
abbrev C := Exit → ST cx → R
noncomputable def b : Code := bodyC Try.f47
def h : Hint := { vs := [0, 1, 2, 4], nil := [], cuts := [(2, ([1, 2, 13], [2]), ([1, 2], [2])), (3, ([1, 2], [2]), ([1, 2], [2]))], ret := ([4], [2]), ords := [] }
def K0 : C := fin (S := cx) E Try.f47.results.toList .str .ro [] []
def c0 : Code := subC b [1]
def K1 (k : Nat) : C := outD h c0 K0
def c1 : Code := subC b [1, 1]
def K3 (k : Nat) : C := outD h c1 (K1 k)
def K4 (k : Nat) : C := seqC E h k c1 (K1 k)
def c2 : Code := subC b [1, 0, 1]
def K5 (k : Nat) : C := outD h c2 (K4 k)
abbrev T2 := Int → D0 → R
abbrev T1 := Int → Bool → D0 → R
abbrev T0 := D0 → Int → R
abbrev s2 := fun x1 m2 => (⟨[(1, .v (.int .i64) .ro x1), (2, .addr (.mem 2) [])], [], [(2, ⟨ty0, .ro, m2⟩)]⟩ : ST cx)
def u2 (k : Nat) : T2 := fun x1 m2 => uK (run E h k c1) (s2 x1 m2) (K3 k)
abbrev l2 (k : Nat) : T2 := fun x1 m2 => cutK (run E h k c1) (s2 x1 m2) (K3 k)
abbrev s1 := fun x1 x13 m2 => (⟨[(1, .v (.int .i64) .ro x1), (2, .addr (.mem 2) []), (13, .v .bool .ro x13)], [], [(2, ⟨ty0, .ro, m2⟩)]⟩ : ST cx)
def u1 (k : Nat) : T1 := fun x1 x13 m2 => uK (run E h k c2) (s1 x1 x13 m2) (K5 k)
abbrev l1 (k : Nat) : T1 := fun x1 x13 m2 => cutK (run E h k c2) (s1 x1 x13 m2) (K5 k)
def u0 (k : Nat) : T0 := fun x0 x1 => runOf (S := cx) E h k Try.f47 [.val ty0, .val (.int .i64)] .str .ro (x0, x1, ())
def t2 : T2 := fun x1 m2 => (wnR x1 (List.length m2.1) fun q1 => (some ((List.getD m2.1 q1 ([] : List UInt8)), ())))
theorem e2 (k : Nat) : u2 k = t2 := by kernel_rfl
theorem g2 (k : Nat) : l2 k = u2 k := funext fun _ => funext fun _ => cut_u _ _ _
def p2 (k : Nat) : T2 := t2
theorem o2 (k : Nat) : l2 k = p2 k := (Eq.trans (b := u2 k) (g2 k) (Eq.trans (b := t2) (e2 k) (by kernel_rfl)))
def t1 (f2 : T2) : T1 := fun x1 x13 m2 => (iteB x13 (some (([63] : List UInt8), ())) (f2 x1 m2))
theorem e1 (k : Nat) : u1 k = t1 (l2 k) := by kernel_rfl
theorem g1 (k : Nat) : l1 k = u1 k := funext fun _ => funext fun _ => funext fun _ => cut_u _ _ _
def p1 (k : Nat) : T1 := t1 (p2 k)
theorem o1 (k : Nat) : l1 k = p1 k := (Eq.trans (b := u1 k) (g1 k) (Eq.trans (b := t1 (l2 k)) (e1 k) (Eq.trans (b := t1 (p2 k)) (congrArg t1 (o2 k)) (by kernel_rfl))))
def t0 (f1 : T1) : T0 := fun x0 x1 => (iteB (decide (x1 < (0 : Int))) (f1 x1 true x0) (f1 x1 (decide (((List.length x0.1 : Nat) : Int) ≤ x1)) x0))
theorem e0 (k : Nat) : u0 k = t0 (l1 k) := by kernel_rfl
def p0 (k : Nat) : T0 := t0 (p1 k)
theorem o0 (k : Nat) : u0 k = p0 k := (Eq.trans (b := t0 (l1 k)) (e0 k) (Eq.trans (b := t0 (p1 k)) (congrArg t0 (o1 k)) (by kernel_rfl)))
end Q77
def s_Q77 (a : D0 × (Int × Unit)) : Option ((List UInt8) × Unit) := Q77.p0 fuel a.1 a.2.1
def F_Q77 : FSpec cx.toNm := { ps := [.val ty0, .val (.int .i64)], nres := 1, rt := .str, rm := .ro, f := s_Q77 }
theorem w_Q77 (a : D0 × (Int × Unit)) : runOf (S := cx) Q77.E Q77.h fuel Try.f47 F_Q77.ps F_Q77.rt F_Q77.rm a = F_Q77.f a := Eq.trans (b := Q77.u0 fuel a.1 a.2.1) (by kernel_rfl) (Eq.trans (b := Q77.p0 fuel a.1 a.2.1) (congrFun (congrFun (Q77.o0 fuel) a.1) a.2.1) (by kernel_rfl))
theorem ok_Q77 : FnOk Try.prog F_Q77 47 := fn_of (hn := Q77.h) (E := Q77.E) cxOk (tysT _ _) fs_nil follows Try.func47 (by kernel_rfl) (fun a r h => ⟨fuel, Eq.trans (w_Q77 a) h⟩)
def Fr_Q78 (f : (D0 × ((Option N1) × Unit)) → Option ((List UInt8) × Unit)) : FSpec cx.toNm := { ps := [.val ty0, .val (.ptr 1)], nres := 1, rt := .str, rm := .ro, f := f }
namespace Q78
def E (sf_Q78 : Y_Q78) : Env cx := { tys := tys, fs := fsOf [(31, (Fr_Q78 sf_Q78)), (47, F_Q77), (48, F_Join)] }
abbrev R := Option ((List UInt8) × Unit)
abbrev C := Exit → ST cx → R
noncomputable def b : Code := bodyC Try.f31
def h : Hint := { vs := [0, 1, 2, 4, 5, 7, 30, 31, 32], nil := [(5, (.own .ro))], cuts := [(7, ([1, 2, 5, 30, 31, 32], [2]), ([1, 2, 5], [2])), (11, ([1, 2, 5], [2]), ([1, 2, 5], [2]))], ret := ([4], [2]), ords := [(4, [0, 1, 2, 3, 4, 7, 8, 9, 10, 5, 6, 11, 12]), (11, [0, 1, 2, 3, 4, 7, 5, 6, 8, 9, 10, 11])] }
def K0 (sf_Q78 : Y_Q78) : C := fin (S := cx) (E sf_Q78) Try.f31.results.toList .str .ro [] []
def c0 : Code := subC b [1]
def K1 (sf_Q78 : Y_Q78) (k : Nat) : C := outD h c0 (K0 sf_Q78)
def c1 : Code := subC b [1, 1]
def K3 (sf_Q78 : Y_Q78) (k : Nat) : C := outD h c1 (K1 sf_Q78 k)
def c4 : Code := subC b [1, 1, 1]
def K9 (sf_Q78 : Y_Q78) (k : Nat) : C := outD h c4 (K3 sf_Q78 k)
def c7 : Code := subC b [1, 1, 1, 1]
def K15 (sf_Q78 : Y_Q78) (k : Nat) : C := outD h c7 (K9 sf_Q78 k)
def c8 : Code := subC b [1, 1, 1, 1, 1]
def K17 (sf_Q78 : Y_Q78) (k : Nat) : C := outD h c8 (K15 sf_Q78 k)
def K18 (sf_Q78 : Y_Q78) (k : Nat) : C := seqC (E sf_Q78) h k c8 (K15 sf_Q78 k)
def c9 : Code := subC b [1, 1, 1, 1, 0, 1]
def K19 (sf_Q78 : Y_Q78) (k : Nat) : C := outD h c9 (K18 sf_Q78 k)
def K21 (sf_Q78 : Y_Q78) (k : Nat) : C := blockK 0 (K19 sf_Q78 k)
def c10 : Code := subC b [1, 1, 1, 1, 0, 1, 0, 0]
abbrev T2 := (Option N1) → (List (List UInt8)) → D0 → R
abbrev T1 := (Option N1) → (List (List UInt8)) → (List (Option N1)) → Int → Int → D0 → R
abbrev T0 := D0 → (Option N1) → R
abbrev s2 := fun x1 x5 m2 => (⟨[(1, .v (.ptr 1) .ro x1), (2, .addr (.mem 2) []), (5, .v (.slice 9 .str) (.own .ro) x5)], [], [(2, ⟨ty0, .ro, m2⟩)]⟩ : ST cx)
def u2 (sf_Q78 : Y_Q78) (k : Nat) : T2 := fun x1 x5 m2 => uK (run (E sf_Q78) h k c8) (s2 x1 x5 m2) (K17 sf_Q78 k)
abbrev l2 (sf_Q78 : Y_Q78) (k : Nat) : T2 := fun x1 x5 m2 => cutK (run (E sf_Q78) h k c8) (s2 x1 x5 m2) (K17 sf_Q78 k)
abbrev s1 := fun x1 x5 x30 x31 x32 m2 => (⟨[(1, .v (.ptr 1) .ro x1), (2, .addr (.mem 2) []), (5, .v (.slice 9 .str) (.own .ro) x5), (30, .v (.slice 35 (.ptr 1)) .ro x30), (31, .v (.int .i64) .ro x31), (32, .v (.int .i64) .ro x32)], [], [(2, ⟨ty0, .ro, m2⟩)]⟩ : ST cx)
def u1 (sf_Q78 : Y_Q78) (k n1 : Nat) : T1 := fun x1 x5 x30 x31 x32 m2 => uK (loopL (E sf_Q78) h k c10 (K21 sf_Q78 k) n1) (s1 x1 x5 x30 x31 x32 m2) ()
abbrev l1 (sf_Q78 : Y_Q78) (k n1 : Nat) : T1 := fun x1 x5 x30 x31 x32 m2 => cutK (loopL (E sf_Q78) h k c10 (K21 sf_Q78 k) n1) (s1 x1 x5 x30 x31 x32 m2) ()
def u0 (sf_Q78 : Y_Q78) (k : Nat) : T0 := fun x0 x1 => runOf (S := cx) (E sf_Q78) h k Try.f31 [.val ty0, .val (.ptr 1)] .str .ro (x0, x1, ())
def t2 (sf_Q78 : Y_Q78) : T2 := fun x1 x5 m2 => (bindR x1 fun z8 => (bindR (s_Q77 (m2, ((out1 z8).1, ()))) fun r9 => (mustR (decide (List.length r9.1 + List.length ([40] : List UInt8) ≤ 140737488355328)) (bindR (s_Join (x5, (([32] : List UInt8), ()))) fun r10 => (mustR (decide (List.length (r9.1 ++ ([40] : List UInt8)) + List.length r10.1 ≤ 140737488355328)) (mustR (decide (List.length ((r9.1 ++ ([40] : List UInt8)) ++ r10.1) + List.length ([41] : List UInt8) ≤ 140737488355328)) (some ((((r9.1 ++ ([40] : List UInt8)) ++ r10.1) ++ ([41] : List UInt8)), ()))))))))
theorem e2 (sf_Q78 : Y_Q78) (k : Nat) : u2 sf_Q78 k = t2 sf_Q78 := by kernel_rfl
theorem g2 (sf_Q78 : Y_Q78) (k : Nat) : l2 sf_Q78 k = u2 sf_Q78 k := funext fun _ => funext fun _ => funext fun _ => cut_u _ _ _
def p2 (sf_Q78 : Y_Q78) (k : Nat) : T2 := t2 sf_Q78
theorem o2 (sf_Q78 : Y_Q78) (k : Nat) : l2 sf_Q78 k = p2 sf_Q78 k := (Eq.trans (b := u2 sf_Q78 k) (g2 sf_Q78 k) (Eq.trans (b := t2 sf_Q78) (e2 sf_Q78 k) (by kernel_rfl)))
def t1 (sf_Q78 : Y_Q78) (f1 : T1) (f2 : T2) : T1 := fun x1 x5 x30 x31 x32 m2 => (iteB (decide (x32 < x31)) (wnR x32 (List.length x30) fun q6 => (bindR (sf_Q78 (m2, ((List.getD x30 q6 none), ()))) fun r7 => (mustR (room x5 ([r7.1] : List (List UInt8))) (f1 x1 (x5 ++ ([r7.1] : List (List UInt8))) x30 x31 (w64 (x32 + (1 : Int))) m2)))) (f2 x1 x5 m2))
theorem e1 (sf_Q78 : Y_Q78) (k n1 : Nat) : u1 sf_Q78 k (n1 + 1) = t1 sf_Q78 (l1 sf_Q78 k n1) (l2 sf_Q78 k) := by kernel_rfl
theorem g1 (sf_Q78 : Y_Q78) (k n1 : Nat) : l1 sf_Q78 k (n1 + 1) = u1 sf_Q78 k (n1 + 1) := funext fun _ => funext fun _ => funext fun _ => funext fun _ => funext fun _ => funext fun _ => cut_u _ _ _
def p1 (sf_Q78 : Y_Q78) (k : Nat) : Nat → T1
  | 0 => fun _ _ _ _ _ _ => none
  | n1 + 1 => t1 sf_Q78 (p1 sf_Q78 k n1) (p2 sf_Q78 k)
theorem o1 (sf_Q78 : Y_Q78) (k : Nat) : ∀ n1, l1 sf_Q78 k n1 = p1 sf_Q78 k n1 := by
  intro n1
  induction n1 with
  | zero => kernel_rfl
  | succ n1 ih => exact (Eq.trans (b := u1 sf_Q78 k (n1 + 1)) (g1 sf_Q78 k n1) (Eq.trans (b := t1 sf_Q78 (l1 sf_Q78 k n1) (l2 sf_Q78 k)) (e1 sf_Q78 k n1) (Eq.trans (b := t1 sf_Q78 (p1 sf_Q78 k n1) (p2 sf_Q78 k)) (congr (congrArg (t1 sf_Q78) ih) (o2 sf_Q78 k)) (by kernel_rfl))))
def t0 (sf_Q78 : Y_Q78) (f1 : T1) : T0 := fun x0 x1 => (iteB (Option.isNone x1) (some (([] : List UInt8), ())) (bindR x1 fun z1 => (iteB (decide ((out1 z1).2.1 = (-1 : Int))) (bindR x1 fun z2 => (bindR x1 fun z3 => (bindR (s_Q77 (x0, ((out1 z2).1, ()))) fun r4 => (mustR (decide (List.length r4.1 + List.length ([58] : List UInt8) ≤ 140737488355328)) (mustR (decide (List.length (r4.1 ++ ([58] : List UInt8)) + List.length (out1 z3).2.2.1 ≤ 140737488355328)) (some (((r4.1 ++ ([58] : List UInt8)) ++ (out1 z3).2.2.1), ()))))))) (bindR x1 fun z5 => (f1 x1 ([] : List (List UInt8)) ((out1 z5).2.2.2.1) ((List.length (out1 z5).2.2.2.1 : Nat) : Int) (0 : Int) x0)))))
theorem e0 (sf_Q78 : Y_Q78) (k : Nat) : u0 sf_Q78 k = t0 sf_Q78 (l1 sf_Q78 k k) := by kernel_rfl
def p0 (sf_Q78 : Y_Q78) (k : Nat) : T0 := t0 sf_Q78 (p1 sf_Q78 k k)
theorem o0 (sf_Q78 : Y_Q78) (k : Nat) : u0 sf_Q78 k = p0 sf_Q78 k := (Eq.trans (b := t0 sf_Q78 (l1 sf_Q78 k k)) (e0 sf_Q78 k) (Eq.trans (b := t0 sf_Q78 (p1 sf_Q78 k k)) (congrArg (t0 sf_Q78) (o1 sf_Q78 k k)) (by kernel_rfl)))
end Q78
def r_Q78 : Nat → (D0 × ((Option N1) × Unit)) → Option ((List UInt8) × Unit)
  | 0, _ => none
  | n + 1, a => Q78.p0 (r_Q78 n) fuel a.1 a.2.1
theorem okr_Q78 : ∀ n, FnOk Try.prog (Fr_Q78 (r_Q78 n)) 31
  | 0 => fn_none (fun _ => rfl)
  | n + 1 => fn_of (F := Fr_Q78 (r_Q78 (n + 1))) (hn := Q78.h) (E := Q78.E (r_Q78 n)) cxOk (tysT _ _) (fs_cons (okr_Q78 n) (fs_cons ok_Q77 (fs_cons ok_Join fs_nil))) follows Try.func31 (by kernel_rfl) (fun a r h => ⟨fuel, Eq.trans (c := some r) (congrFun (congrFun (Q78.o0 (r_Q78 n) fuel) a.1) a.2.1) h⟩)
def s_Q78 (a : D0 × ((Option N1) × Unit)) : Option ((List UInt8) × Unit) := r_Q78 fuel a
def F_Q78 : FSpec cx.toNm := Fr_Q78 s_Q78
theorem ok_Q78 : FnOk Try.prog F_Q78 31 := fun w Z own vs a r h1 h2 h3 h4 => (okr_Q78 fuel) w Z own vs a r h1 h2 h3 h4
namespace Q79
def E : Env cx := { tys := tys, fs := fsOf [(11, F_Q69), (15, F_Q74), (19, F_Q64), (28, F_Q75), (30, F_Q76), (31, F_Q78)] }
abbrev R := Option (Bool × Unit)
abbrev C := Exit → ST cx → R
noncomputable def b : Code := bodyC Try.f7
def h : Hint := { vs := [0, 1, 2, 3, 4, 5, 6, 7], nil := [], cuts := [(5, ([1, 4, 37], [1]), ([1, 4], [1])), (6, ([1, 4], [1]), ([1, 4], [1]))], ret := ([0], [1]), ords := [(3, [0, 2, 1, 3, 4, 5, 6, 7, 8, 9])] }
def K0 : C := fin (S := cx) E Try.f7.results.toList .bool .ro [] []
def c0 : Code := subC b [1]
def K1 (k : Nat) : C := outD h c0 K0
def c1 : Code := subC b [1, 1]
def K3 (k : Nat) : C := outD h c1 (K1 k)
def c2 : Code := subC b [1, 1, 1]
def K5 (k : Nat) : C := outD h c2 (K3 k)
def c3 : Code := subC b [1, 1, 1, 1]
def K7 (k : Nat) : C := outD h c3 (K5 k)
def c4 : Code := subC b [1, 1, 1, 1, 1]
def K9 (k : Nat) : C := outD h c4 (K7 k)
def K10 (k : Nat) : C := seqC E h k c4 (K7 k)
def c5 : Code := subC b [1, 1, 1, 1, 0, 1]
def K11 (k : Nat) : C := outD h c5 (K10 k)
abbrev T2 := (Option N1) → D0 → R
abbrev T1 := (Option N1) → Bool → D0 → R
abbrev T0 := R
abbrev s2 := fun x4 m1 => (⟨[(1, .addr (.mem 1) []), (4, .v (.ptr 1) .ro x4)], [], [(1, ⟨ty0, .ro, m1⟩)]⟩ : ST cx)
def u2 (k : Nat) : T2 := fun x4 m1 => uK (run E h k c4) (s2 x4 m1) (K9 k)
abbrev l2 (k : Nat) : T2 := fun x4 m1 => cutK (run E h k c4) (s2 x4 m1) (K9 k)
abbrev s1 := fun x4 x37 m1 => (⟨[(1, .addr (.mem 1) []), (4, .v (.ptr 1) .ro x4), (37, .v .bool .ro x37)], [], [(1, ⟨ty0, .ro, m1⟩)]⟩ : ST cx)
def u1 (k : Nat) : T1 := fun x4 x37 m1 => uK (run E h k c5) (s1 x4 x37 m1) (K11 k)
abbrev l1 (k : Nat) : T1 := fun x4 x37 m1 => cutK (run E h k c5) (s1 x4 x37 m1) (K11 k)
def u0 (k : Nat) : T0 := runOf (S := cx) E h k Try.f7 [] .bool .ro (())
def t2 : T2 := fun x4 m1 => (bindR (s_Q75 (x4, (([(0 : Int)] : List Int), ()))) fun r6 => (bindR x4 fun z7 => (iteB (decide ((out1 z7).2.2.2.2.1 = (2 : Int))) (bindR (s_Q78 (m1, (x4, ()))) fun r8 => (iteB (decide (r8.1 = ([115, 40, 97, 58, 120, 32, 115, 40, 97, 58, 121, 41, 41] : List UInt8))) (iteB r6.1.2 (iteB (!(Option.isNone r6.1.1)) (bindR r6.1.1 fun z9 => (iteB (decide ((out1 z9).2.2.1 = ([120] : List UInt8))) (bindR (s_Q64 (m1, (x4, ()))) fun r10 => (some (r10.1, ()))) (some (false, ())))) (some (false, ()))) (some (false, ()))) (some (false, ())))) (some (false, ())))))
theorem e2 (k : Nat) : u2 k = t2 := by kernel_rfl
theorem g2 (k : Nat) : l2 k = u2 k := funext fun _ => funext fun _ => cut_u _ _ _
def p2 (k : Nat) : T2 := t2
theorem o2 (k : Nat) : l2 k = p2 k := (Eq.trans (b := u2 k) (g2 k) (Eq.trans (b := t2) (e2 k) (by kernel_rfl)))
def t1 (f2 : T2) : T1 := fun x4 x37 m1 => (iteB x37 (some (false, ())) (f2 x4 m1))
theorem e1 (k : Nat) : u1 k = t1 (l2 k) := by kernel_rfl
theorem g1 (k : Nat) : l1 k = u1 k := funext fun _ => funext fun _ => funext fun _ => cut_u _ _ _
def p1 (k : Nat) : T1 := t1 (p2 k)
theorem o1 (k : Nat) : l1 k = p1 k := (Eq.trans (b := u1 k) (g1 k) (Eq.trans (b := t1 (l2 k)) (e1 k) (Eq.trans (b := t1 (p2 k)) (congrArg t1 (o2 k)) (by kernel_rfl))))
def t0 (f1 : T1) : T0 := 
  (bindR (s_Q76 ()) fun r1 => (bindR (s_Q69 ((0 : Int), (([121] : List UInt8), ()))) fun r2 => (bindR (s_Q74 (r1.1, ((1 : Int), (([r2.1] : List (Option N1)), ())))) fun r3 => (bindR (s_Q69 ((0 : Int), (([120] : List UInt8), ()))) fun r4 => (bindR (s_Q74 (r1.1, ((0 : Int), (([r4.1, r3.1.1] : List (Option N1)), ())))) fun r5 => (iteB (!decide (r3.1.2 = (0 : Int))) (f1 r5.1.1 true r1.1) (iteB (!decide (r5.1.2 = (0 : Int))) (f1 r5.1.1 true r1.1) (iteB (Option.isNone r3.1.1) (f1 r5.1.1 true r1.1) (f1 r5.1.1 (Option.isNone r5.1.1) r1.1)))))))))
theorem e0 (k : Nat) : u0 k = t0 (l1 k) := by kernel_rfl
def p0 (k : Nat) : T0 := t0 (p1 k)
theorem o0 (k : Nat) : u0 k = p0 k := (Eq.trans (b := t0 (l1 k)) (e0 k) (Eq.trans (b := t0 (p1 k)) (congrArg t0 (o1 k)) (by kernel_rfl)))
end Q79
def s_Q79 (a : Unit) : Option (Bool × Unit) := Q79.p0 fuel
def F_Q79 : FSpec cx.toNm := { ps := [], nres := 1, rt := .bool, rm := .ro, f := s_Q79 }
theorem w_Q79 (a : Unit) : runOf (S := cx) Q79.E Q79.h fuel Try.f7 F_Q79.ps F_Q79.rt F_Q79.rm a = F_Q79.f a := Eq.trans (b := Q79.u0 fuel) (by kernel_rfl) (Eq.trans (b := Q79.p0 fuel) (Q79.o0 fuel) (by kernel_rfl))
theorem ok_Q79 : FnOk Try.prog F_Q79 7 := fn_of (hn := Q79.h) (E := Q79.E) cxOk (tysT _ _) (fs_cons ok_Q69 (fs_cons ok_Q74 (fs_cons ok_Q64 (fs_cons ok_Q75 (fs_cons ok_Q76 (fs_cons ok_Q78 fs_nil)))))) follows Try.func7 (by kernel_rfl) (fun a r h => ⟨fuel, Eq.trans (w_Q79 a) h⟩)
namespace Q80
def E : Env cx := { tys := tys, fs := fsOf [] }
abbrev R := Option ((List Int) × Unit)
abbrev C := Exit → ST cx → R
noncomputable def b : Code := bodyC Try.f35
def h : Hint := { vs := [0, 1, 2, 3, 4, 5, 6, 7, 8, 9, 10], nil := [(26, (.own .ro)), (3, (.own .ro)), (6, (.own .ro)), (14, (.own .ro))], cuts := [(4, ([1, 3, 4, 5], [1]), ([3], [])), (5, ([1, 3, 4, 5], [1]), ([1, 3, 4, 5], [1])), (8, ([1, 3, 4, 5, 6, 7], [1]), ([1, 3, 5, 6], [1])), (9, ([1, 3, 4, 5, 6, 7], [1]), ([1, 3, 4, 5, 6, 7], [1])), (11, ([1, 3, 4, 5, 6, 7, 8], [1]), ([1, 3, 4, 5, 6, 7], [1])), (12, ([1, 3, 4, 5, 6, 7, 8, 9], [1]), ([1, 3, 4, 5, 6, 7, 8], [1])), (13, ([1, 3, 4, 5, 6, 7, 8, 9], [1]), ([1, 3, 4, 5, 6, 7, 8, 9], [1])), (16, ([1, 3, 4, 5, 6, 7, 8], [1]), ([1, 3, 4, 5, 6, 7], [1])), (19, ([1, 3, 5, 6], [1]), ([1, 3, 4, 5], [1])), (20, ([3], []), ([3], []))], ret := ([2], [1]), ords := [] }
def K0 : C := fin (S := cx) E Try.f35.results.toList (.slice 3 (.int .i64)) .ro [] []
def c0 : Code := subC b [1]
def K1 (k : Nat) : C := outD h c0 K0
def c1 : Code := subC b [1, 1]
def K3 (k : Nat) : C := outD h c1 (K1 k)
def c2 : Code := subC b [1, 1, 1]
def K5 (k : Nat) : C := outD h c2 (K3 k)
def c3 : Code := subC b [1, 1, 1, 1]
def K7 (k : Nat) : C := outD h c3 (K5 k)
def K8 (k : Nat) : C := seqC E h k c3 (K5 k)
def c4 : Code := subC b [1, 1, 1, 0, 1]
def K9 (k : Nat) : C := outD h c4 (K8 k)
def K11 (k : Nat) : C := blockK 0 (K9 k)
def c5 : Code := subC b [1, 1, 1, 0, 1, 0, 0]
def K12 (k n1 : Nat) : C := loopD E h k c5 (K11 k) n1
def c6 : Code := subC b [1, 1, 1, 0, 1, 0, 0, 1]
def K13 (k n1 : Nat) : C := outD h c6 (K12 k n1)
def c8 : Code := subC b [1, 1, 1, 0, 1, 0, 0, 1, 1]
def K17 (k n1 : Nat) : C := outD h c8 (K13 k n1)
def K18 (k n1 : Nat) : C := seqC E h k c8 (K13 k n1)
def K19 (k n1 : Nat) : C := blockK 1 (K18 k n1)
def c9 : Code := subC b [1, 1, 1, 0, 1, 0, 0, 1, 0, 0, 1]
def K20 (k n1 : Nat) : C := outD h c9 (K19 k n1)
def c10 : Code := subC b [1, 1, 1, 0, 1, 0, 0, 1, 0, 0, 1, 1]
def K22 (k n1 : Nat) : C := outD h c10 (K20 k n1)
def K23 (k n1 : Nat) : C := seqC E h k c10 (K20 k n1)
def c11 : Code := subC b [1, 1, 1, 0, 1, 0, 0, 1, 0, 0, 1, 0, 1]
def K24 (k n1 : Nat) : C := outD h c11 (K23 k n1)
def K26 (k n1 : Nat) : C := blockK 2 (K24 k n1)
def c12 : Code := subC b [1, 1, 1, 0, 1, 0, 0, 1, 0, 0, 1, 0, 1, 0, 0]
def K27 (k n1 n2 : Nat) : C := loopD E h k c12 (K26 k n1) n2
def c13 : Code := subC b [1, 1, 1, 0, 1, 0, 0, 1, 0, 0, 1, 0, 1, 0, 0, 1]
def K28 (k n1 n2 : Nat) : C := outD h c13 (K27 k n1 n2)
def c15 : Code := subC b [1, 1, 1, 0, 1, 0, 0, 1, 0, 0, 1, 0, 1, 0, 0, 1, 1]
def K32 (k n1 n2 : Nat) : C := outD h c15 (K28 k n1 n2)
def K33 (k n1 n2 : Nat) : C := seqC E h k c15 (K28 k n1 n2)
def K34 (k n1 n2 : Nat) : C := blockK 3 (K33 k n1 n2)
def c16 : Code := subC b [1, 1, 1, 0, 1, 0, 0, 1, 0, 0, 1, 0, 1, 0, 0, 1, 0, 0, 1]
def K35 (k n1 n2 : Nat) : C := outD h c16 (K34 k n1 n2)
def c17 : Code := subC b [1, 1, 1, 0, 1, 0, 0, 1, 0, 0, 1, 0, 1, 0, 0, 1, 0, 0, 1, 1]
def K37 (k n1 n2 : Nat) : C := outD h c17 (K35 k n1 n2)
def K38 (k n1 n2 : Nat) : C := seqC E h k c17 (K35 k n1 n2)
def c18 : Code := subC b [1, 1, 1, 0, 1, 0, 0, 1, 0, 0, 1, 0, 1, 0, 0, 1, 0, 0, 1, 0, 1]
def K39 (k n1 n2 : Nat) : C := outD h c18 (K38 k n1 n2)
def K41 (k n1 n2 : Nat) : C := blockK 4 (K39 k n1 n2)
def c19 : Code := subC b [1, 1, 1, 0, 1, 0, 0, 1, 0, 0, 1, 0, 1, 0, 0, 1, 0, 0, 1, 0, 1, 0, 0]
def K42 (k n1 n2 n6 : Nat) : C := loopD E h k c19 (K41 k n1 n2) n6
def c20 : Code := subC b [1, 1, 1, 0, 1, 0, 0, 1, 0, 0, 1, 0, 1, 0, 0, 1, 0, 0, 1, 0, 1, 0, 0, 1]
def K43 (k n1 n2 n6 : Nat) : C := outD h c20 (K42 k n1 n2 n6)
def c22 : Code := subC b [1, 1, 1, 0, 1, 0, 0, 1, 0, 0, 1, 0, 1, 0, 0, 1, 0, 0, 1, 0, 1, 0, 0, 1, 1]
def K47 (k n1 n2 n6 : Nat) : C := outD h c22 (K43 k n1 n2 n6)
abbrev T7 := (List Int) → (List Bool) → Int → (List Bool) → Int → Bool → Int → D0 → R
abbrev T9 := (List Int) → (List Bool) → Int → (List Bool) → Int → D0 → R
abbrev T8 := (List Int) → (List Bool) → Int → (List Bool) → Int → Bool → D0 → R
abbrev T6 := (List Int) → (List Bool) → Int → (List Bool) → Int → Bool → Int → D0 → R
abbrev T4 := (List Int) → (List Bool) → Int → (List Bool) → Int → Bool → D0 → R
abbrev T10 := (List Int) → (List Bool) → Int → D0 → R
abbrev T5 := (List Int) → Int → (List Bool) → D0 → R
abbrev T2 := (List Int) → (List Bool) → Int → (List Bool) → Int → D0 → R
abbrev T3 := (List Int) → R
abbrev T1 := (List Int) → (List Bool) → Int → D0 → R
abbrev T0 := D0 → R
abbrev s7 := fun x3 x4 x5 x6 x7 x8 x9 m1 => (⟨[(1, .addr (.mem 1) []), (3, .v (.slice 3 (.int .i64)) (.own .ro) x3), (4, .v (.slice 4 .bool) .ro x4), (5, .v (.int .i64) .ro x5), (6, .v (.slice 4 .bool) (.own .ro) x6), (7, .v (.int .i64) .ro x7), (8, .v .bool .ro x8), (9, .v (.int .i64) .ro x9)], [], [(1, ⟨ty0, .ro, m1⟩)]⟩ : ST cx)
def u7 (k n1 n2 n6 : Nat) : T7 := fun x3 x4 x5 x6 x7 x8 x9 m1 => uK (run E h k c22) (s7 x3 x4 x5 x6 x7 x8 x9 m1) (K47 k n1 n2 n6)
abbrev l7 (k n1 n2 n6 : Nat) : T7 := fun x3 x4 x5 x6 x7 x8 x9 m1 => cutK (run E h k c22) (s7 x3 x4 x5 x6 x7 x8 x9 m1) (K47 k n1 n2 n6)
abbrev s9 := fun x3 x4 x5 x6 x7 m1 => (⟨[(1, .addr (.mem 1) []), (3, .v (.slice 3 (.int .i64)) (.own .ro) x3), (4, .v (.slice 4 .bool) .ro x4), (5, .v (.int .i64) .ro x5), (6, .v (.slice 4 .bool) (.own .ro) x6), (7, .v (.int .i64) .ro x7)], [], [(1, ⟨ty0, .ro, m1⟩)]⟩ : ST cx)
def u9 (k n1 n2 : Nat) : T9 := fun x3 x4 x5 x6 x7 m1 => uK (run E h k c15) (s9 x3 x4 x5 x6 x7 m1) (K32 k n1 n2)
abbrev l9 (k n1 n2 : Nat) : T9 := fun x3 x4 x5 x6 x7 m1 => cutK (run E h k c15) (s9 x3 x4 x5 x6 x7 m1) (K32 k n1 n2)
abbrev s8 := fun x3 x4 x5 x6 x7 x8 m1 => (⟨[(1, .addr (.mem 1) []), (3, .v (.slice 3 (.int .i64)) (.own .ro) x3), (4, .v (.slice 4 .bool) .ro x4), (5, .v (.int .i64) .ro x5), (6, .v (.slice 4 .bool) (.own .ro) x6), (7, .v (.int .i64) .ro x7), (8, .v .bool .ro x8)], [], [(1, ⟨ty0, .ro, m1⟩)]⟩ : ST cx)
def u8 (k n1 n2 : Nat) : T8 := fun x3 x4 x5 x6 x7 x8 m1 => uK (run E h k c17) (s8 x3 x4 x5 x6 x7 x8 m1) (K37 k n1 n2)
abbrev l8 (k n1 n2 : Nat) : T8 := fun x3 x4 x5 x6 x7 x8 m1 => cutK (run E h k c17) (s8 x3 x4 x5 x6 x7 x8 m1) (K37 k n1 n2)
abbrev s6 := fun x3 x4 x5 x6 x7 x8 x9 m1 => (⟨[(1, .addr (.mem 1) []), (3, .v (.slice 3 (.int .i64)) (.own .ro) x3), (4, .v (.slice 4 .bool) .ro x4), (5, .v (.int .i64) .ro x5), (6, .v (.slice 4 .bool) (.own .ro) x6), (7, .v (.int .i64) .ro x7), (8, .v .bool .ro x8), (9, .v (.int .i64) .ro x9)], [], [(1, ⟨ty0, .ro, m1⟩)]⟩ : ST cx)
def u6 (k n1 n2 n6 : Nat) : T6 := fun x3 x4 x5 x6 x7 x8 x9 m1 => uK (loopL E h k c19 (K41 k n1 n2) n6) (s6 x3 x4 x5 x6 x7 x8 x9 m1) ()
abbrev l6 (k n1 n2 n6 : Nat) : T6 := fun x3 x4 x5 x6 x7 x8 x9 m1 => cutK (loopL E h k c19 (K41 k n1 n2) n6) (s6 x3 x4 x5 x6 x7 x8 x9 m1) ()
abbrev s4 := fun x3 x4 x5 x6 x7 x8 m1 => (⟨[(1, .addr (.mem 1) []), (3, .v (.slice 3 (.int .i64)) (.own .ro) x3), (4, .v (.slice 4 .bool) .ro x4), (5, .v (.int .i64) .ro x5), (6, .v (.slice 4 .bool) (.own .ro) x6), (7, .v (.int .i64) .ro x7), (8, .v .bool .ro x8)], [], [(1, ⟨ty0, .ro, m1⟩)]⟩ : ST cx)
def u4 (k n1 n2 : Nat) : T4 := fun x3 x4 x5 x6 x7 x8 m1 => uK (run E h k c16) (s4 x3 x4 x5 x6 x7 x8 m1) (K35 k n1 n2)
abbrev l4 (k n1 n2 : Nat) : T4 := fun x3 x4 x5 x6 x7 x8 m1 => cutK (run E h k c16) (s4 x3 x4 x5 x6 x7 x8 m1) (K35 k n1 n2)
abbrev s10 := fun x3 x4 x5 m1 => (⟨[(1, .addr (.mem 1) []), (3, .v (.slice 3 (.int .i64)) (.own .ro) x3), (4, .v (.slice 4 .bool) .ro x4), (5, .v (.int .i64) .ro x5)], [], [(1, ⟨ty0, .ro, m1⟩)]⟩ : ST cx)
def u10 (k n1 : Nat) : T10 := fun x3 x4 x5 m1 => uK (run E h k c8) (s10 x3 x4 x5 m1) (K17 k n1)
abbrev l10 (k n1 : Nat) : T10 := fun x3 x4 x5 m1 => cutK (run E h k c8) (s10 x3 x4 x5 m1) (K17 k n1)
abbrev s5 := fun x3 x5 x6 m1 => (⟨[(1, .addr (.mem 1) []), (3, .v (.slice 3 (.int .i64)) (.own .ro) x3), (5, .v (.int .i64) .ro x5), (6, .v (.slice 4 .bool) (.own .ro) x6)], [], [(1, ⟨ty0, .ro, m1⟩)]⟩ : ST cx)
def u5 (k n1 : Nat) : T5 := fun x3 x5 x6 m1 => uK (run E h k c10) (s5 x3 x5 x6 m1) (K22 k n1)
abbrev l5 (k n1 : Nat) : T5 := fun x3 x5 x6 m1 => cutK (run E h k c10) (s5 x3 x5 x6 m1) (K22 k n1)
abbrev s2 := fun x3 x4 x5 x6 x7 m1 => (⟨[(1, .addr (.mem 1) []), (3, .v (.slice 3 (.int .i64)) (.own .ro) x3), (4, .v (.slice 4 .bool) .ro x4), (5, .v (.int .i64) .ro x5), (6, .v (.slice 4 .bool) (.own .ro) x6), (7, .v (.int .i64) .ro x7)], [], [(1, ⟨ty0, .ro, m1⟩)]⟩ : ST cx)
def u2 (k n1 n2 : Nat) : T2 := fun x3 x4 x5 x6 x7 m1 => uK (loopL E h k c12 (K26 k n1) n2) (s2 x3 x4 x5 x6 x7 m1) ()
abbrev l2 (k n1 n2 : Nat) : T2 := fun x3 x4 x5 x6 x7 m1 => cutK (loopL E h k c12 (K26 k n1) n2) (s2 x3 x4 x5 x6 x7 m1) ()
abbrev s3 := fun x3 => (⟨[(3, .v (.slice 3 (.int .i64)) (.own .ro) x3)], [], []⟩ : ST cx)
def u3 (k : Nat) : T3 := fun x3 => uK (run E h k c3) (s3 x3) (K7 k)
abbrev l3 (k : Nat) : T3 := fun x3 => cutK (run E h k c3) (s3 x3) (K7 k)
abbrev s1 := fun x3 x4 x5 m1 => (⟨[(1, .addr (.mem 1) []), (3, .v (.slice 3 (.int .i64)) (.own .ro) x3), (4, .v (.slice 4 .bool) .ro x4), (5, .v (.int .i64) .ro x5)], [], [(1, ⟨ty0, .ro, m1⟩)]⟩ : ST cx)
def u1 (k n1 : Nat) : T1 := fun x3 x4 x5 m1 => uK (loopL E h k c5 (K11 k) n1) (s1 x3 x4 x5 m1) ()
abbrev l1 (k n1 : Nat) : T1 := fun x3 x4 x5 m1 => cutK (loopL E h k c5 (K11 k) n1) (s1 x3 x4 x5 m1) ()
def u0 (k : Nat) : T0 := fun x0 => runOf (S := cx) E h k Try.f35 [.val ty0] (.slice 3 (.int .i64)) .ro (x0, ())
def t7 (f6 : T6) : T7 := fun x3 x4 x5 x6 x7 x8 x9 m1 => (f6 x3 x4 x5 x6 x7 x8 (w64 (x9 + (1 : Int))) m1)
theorem e7 (k n1 n2 n6 : Nat) : u7 k n1 n2 n6 = t7 (l6 k n1 n2 n6) := by kernel_rfl
theorem g7 (k n1 n2 n6 : Nat) : l7 k n1 n2 n6 = u7 k n1 n2 n6 := funext fun _ => funext fun _ => funext fun _ => funext fun _ => funext fun _ => funext fun _ => funext fun _ => funext fun _ => cut_u _ _ _
def p7 (k : Nat) (a1 : T1) (a2 : T2) (a6 : T6) : T7 := t7 a6
theorem o7 (k n1 n2 n6 : Nat) (a1 : T1) (a2 : T2) (a6 : T6) (h1 : l1 k n1 = a1) (h2 : l2 k n1 n2 = a2) (h6 : l6 k n1 n2 n6 = a6) : l7 k n1 n2 n6 = p7 k a1 a2 a6 := (Eq.trans (b := u7 k n1 n2 n6) (g7 k n1 n2 n6) (Eq.trans (b := t7 (l6 k n1 n2 n6)) (e7 k n1 n2 n6) (Eq.trans (b := t7 a6) (congrArg t7 h6) (by kernel_rfl))))
def t9 (f2 : T2) : T9 := fun x3 x4 x5 x6 x7 m1 => (f2 x3 x4 x5 x6 (w64 (x7 + (1 : Int))) m1)
theorem e9 (k n1 n2 : Nat) : u9 k n1 n2 = t9 (l2 k n1 n2) := by kernel_rfl
theorem g9 (k n1 n2 : Nat) : l9 k n1 n2 = u9 k n1 n2 := funext fun _ => funext fun _ => funext fun _ => funext fun _ => funext fun _ => funext fun _ => cut_u _ _ _
def p9 (k : Nat) (a1 : T1) (a2 : T2) : T9 := t9 a2
theorem o9 (k n1 n2 : Nat) (a1 : T1) (a2 : T2) (h1 : l1 k n1 = a1) (h2 : l2 k n1 n2 = a2) : l9 k n1 n2 = p9 k a1 a2 := (Eq.trans (b := u9 k n1 n2) (g9 k n1 n2) (Eq.trans (b := t9 (l2 k n1 n2)) (e9 k n1 n2) (Eq.trans (b := t9 a2) (congrArg t9 h2) (by kernel_rfl))))
def t8 (f9 : T9) : T8 := fun x3 x4 x5 x6 x7 x8 m1 => (iteB x8 (wnR x7 (List.length m1.2.2.2.1) fun q9 => (wnR ((List.getD m1.2.2.2.1 q9 ((0 : Int), ([] : List Int))).1) (List.length x3) fun q10 => (wnR x7 (List.length m1.2.2.2.1) fun q11 => (wnR ((List.getD m1.2.2.2.1 q11 ((0 : Int), ([] : List Int))).1) (List.length x6) fun q12 => (f9 (List.set x3 q10 x7) x4 x5 (List.set x6 q12 true) x7 m1))))) (f9 x3 x4 x5 x6 x7 m1))
theorem e8 (k n1 n2 : Nat) : u8 k n1 n2 = t8 (l9 k n1 n2) := by kernel_rfl
theorem g8 (k n1 n2 : Nat) : l8 k n1 n2 = u8 k n1 n2 := funext fun _ => funext fun _ => funext fun _ => funext fun _ => funext fun _ => funext fun _ => funext fun _ => cut_u _ _ _
def p8 (k : Nat) (a1 : T1) (a2 : T2) : T8 := t8 (p9 k a1 a2)
theorem o8 (k n1 n2 : Nat) (a1 : T1) (a2 : T2) (h1 : l1 k n1 = a1) (h2 : l2 k n1 n2 = a2) : l8 k n1 n2 = p8 k a1 a2 := (Eq.trans (b := u8 k n1 n2) (g8 k n1 n2) (Eq.trans (b := t8 (l9 k n1 n2)) (e8 k n1 n2) (Eq.trans (b := t8 (p9 k a1 a2)) (congrArg t8 (o9 k n1 n2 a1 a2 h1 h2)) (by kernel_rfl))))
def t6 (f7 : T7) (f8 : T8) : T6 := fun x3 x4 x5 x6 x7 x8 x9 m1 => (wnR x7 (List.length m1.2.2.2.1) fun q5 => (iteB (decide (x9 < ((List.length (List.getD m1.2.2.2.1 q5 ((0 : Int), ([] : List Int))).2 : Nat) : Int))) (wnR x7 (List.length m1.2.2.2.1) fun q6 => (wnR x9 (List.length (List.getD m1.2.2.2.1 q6 ((0 : Int), ([] : List Int))).2) fun q7 => (iteB x8 (iteB (decide ((List.getD (List.getD m1.2.2.2.1 q6 ((0 : Int), ([] : List Int))).2 q7 (0 : Int)) < m1.2.1)) (f7 x3 x4 x5 x6 x7 true x9 m1) (wnR (List.getD (List.getD m1.2.2.2.1 q6 ((0 : Int), ([] : List Int))).2 q7 (0 : Int)) (List.length x4) fun q8 => (f7 x3 x4 x5 x6 x7 (List.getD x4 q8 false) x9 m1))) (f7 x3 x4 x5 x6 x7 false x9 m1)))) (f8 x3 x4 x5 x6 x7 x8 m1)))
theorem e6 (k n1 n2 n6 : Nat) : u6 k n1 n2 (n6 + 1) = t6 (l7 k n1 n2 n6) (l8 k n1 n2) := by kernel_rfl
theorem g6 (k n1 n2 n6 : Nat) : l6 k n1 n2 (n6 + 1) = u6 k n1 n2 (n6 + 1) := funext fun _ => funext fun _ => funext fun _ => funext fun _ => funext fun _ => funext fun _ => funext fun _ => funext fun _ => cut_u _ _ _
def p6 (k : Nat) (a1 : T1) (a2 : T2) : Nat → T6
  | 0 => fun _ _ _ _ _ _ _ _ => none
  | n6 + 1 => t6 (p7 k a1 a2 (p6 k a1 a2 n6)) (p8 k a1 a2)
theorem o6 (k n1 n2 : Nat) (a1 : T1) (a2 : T2) (h1 : l1 k n1 = a1) (h2 : l2 k n1 n2 = a2) : ∀ n6, l6 k n1 n2 n6 = p6 k a1 a2 n6 := by
  intro n6
  induction n6 with
  | zero => kernel_rfl
  | succ n6 ih => exact (Eq.trans (b := u6 k n1 n2 (n6 + 1)) (g6 k n1 n2 n6) (Eq.trans (b := t6 (l7 k n1 n2 n6) (l8 k n1 n2)) (e6 k n1 n2 n6) (Eq.trans (b := t6 (p7 k a1 a2 (p6 k a1 a2 n6)) (p8 k a1 a2)) (congr (congrArg t6 (o7 k n1 n2 n6 a1 a2 (p6 k a1 a2 n6) h1 h2 ih)) (o8 k n1 n2 a1 a2 h1 h2)) (by kernel_rfl))))
def t4 (f6 : T6) : T4 := fun x3 x4 x5 x6 x7 x8 m1 => (f6 x3 x4 x5 x6 x7 x8 (0 : Int) m1)
theorem e4 (k n1 n2 : Nat) : u4 k n1 n2 = t4 (l6 k n1 n2 k) := by kernel_rfl
theorem g4 (k n1 n2 : Nat) : l4 k n1 n2 = u4 k n1 n2 := funext fun _ => funext fun _ => funext fun _ => funext fun _ => funext fun _ => funext fun _ => funext fun _ => cut_u _ _ _
def p4 (k : Nat) (a1 : T1) (a2 : T2) : T4 := t4 (p6 k a1 a2 k)
theorem o4 (k n1 n2 : Nat) (a1 : T1) (a2 : T2) (h1 : l1 k n1 = a1) (h2 : l2 k n1 n2 = a2) : l4 k n1 n2 = p4 k a1 a2 := (Eq.trans (b := u4 k n1 n2) (g4 k n1 n2) (Eq.trans (b := t4 (l6 k n1 n2 k)) (e4 k n1 n2) (Eq.trans (b := t4 (p6 k a1 a2 k)) (congrArg t4 (o6 k n1 n2 a1 a2 h1 h2 k)) (by kernel_rfl))))
def t10 (f1 : T1) : T10 := fun x3 x4 x5 m1 => (f1 x3 x4 (w64 (x5 + (1 : Int))) m1)
theorem e10 (k n1 : Nat) : u10 k n1 = t10 (l1 k n1) := by kernel_rfl
theorem g10 (k n1 : Nat) : l10 k n1 = u10 k n1 := funext fun _ => funext fun _ => funext fun _ => funext fun _ => cut_u _ _ _
def p10 (k : Nat) (a1 : T1) : T10 := t10 a1
theorem o10 (k n1 : Nat) (a1 : T1) (h1 : l1 k n1 = a1) : l10 k n1 = p10 k a1 := (Eq.trans (b := u10 k n1) (g10 k n1) (Eq.trans (b := t10 (l1 k n1)) (e10 k n1) (Eq.trans (b := t10 a1) (congrArg t10 h1) (by kernel_rfl))))
def t5 (f10 : T10) : T5 := fun x3 x5 x6 m1 => (f10 x3 x6 x5 m1)
theorem e5 (k n1 : Nat) : u5 k n1 = t5 (l10 k n1) := by kernel_rfl
theorem g5 (k n1 : Nat) : l5 k n1 = u5 k n1 := funext fun _ => funext fun _ => funext fun _ => funext fun _ => cut_u _ _ _
def p5 (k : Nat) (a1 : T1) : T5 := t5 (p10 k a1)
theorem o5 (k n1 : Nat) (a1 : T1) (h1 : l1 k n1 = a1) : l5 k n1 = p5 k a1 := (Eq.trans (b := u5 k n1) (g5 k n1) (Eq.trans (b := t5 (l10 k n1)) (e5 k n1) (Eq.trans (b := t5 (p10 k a1)) (congrArg t5 (o10 k n1 a1 h1)) (by kernel_rfl))))
def t2 (f4 : T4) (f5 : T5) : T2 := fun x3 x4 x5 x6 x7 m1 => (iteB (decide (x7 < ((List.length m1.2.2.2.1 : Nat) : Int))) (wnR x7 (List.length m1.2.2.2.1) fun q1 => (wnR ((List.getD m1.2.2.2.1 q1 ((0 : Int), ([] : List Int))).1) (List.length x4) fun q2 => (iteB (notB (List.getD x4 q2 false)) (wnR x7 (List.length m1.2.2.2.1) fun q3 => (wnR ((List.getD m1.2.2.2.1 q3 ((0 : Int), ([] : List Int))).1) (List.length x6) fun q4 => (f4 x3 x4 x5 x6 x7 (notB (List.getD x6 q4 false)) m1))) (f4 x3 x4 x5 x6 x7 false m1)))) (f5 x3 x5 x6 m1))
theorem e2 (k n1 n2 : Nat) : u2 k n1 (n2 + 1) = t2 (l4 k n1 n2) (l5 k n1) := by kernel_rfl
theorem g2 (k n1 n2 : Nat) : l2 k n1 (n2 + 1) = u2 k n1 (n2 + 1) := funext fun _ => funext fun _ => funext fun _ => funext fun _ => funext fun _ => funext fun _ => cut_u _ _ _
def p2 (k : Nat) (a1 : T1) : Nat → T2
  | 0 => fun _ _ _ _ _ _ => none
  | n2 + 1 => t2 (p4 k a1 (p2 k a1 n2)) (p5 k a1)
theorem o2 (k n1 : Nat) (a1 : T1) (h1 : l1 k n1 = a1) : ∀ n2, l2 k n1 n2 = p2 k a1 n2 := by
  intro n2
  induction n2 with
  | zero => kernel_rfl
  | succ n2 ih => exact (Eq.trans (b := u2 k n1 (n2 + 1)) (g2 k n1 n2) (Eq.trans (b := t2 (l4 k n1 n2) (l5 k n1)) (e2 k n1 n2) (Eq.trans (b := t2 (p4 k a1 (p2 k a1 n2)) (p5 k a1)) (congr (congrArg t2 (o4 k n1 n2 a1 (p2 k a1 n2) h1 ih)) (o5 k n1 a1 h1)) (by kernel_rfl))))
def t3 : T3 := fun x3 => (some (x3, ()))
theorem e3 (k : Nat) : u3 k = t3 := by kernel_rfl
theorem g3 (k : Nat) : l3 k = u3 k := funext fun _ => cut_u _ _ _
def p3 (k : Nat) : T3 := t3
theorem o3 (k : Nat) : l3 k = p3 k := (Eq.trans (b := u3 k) (g3 k) (Eq.trans (b := t3) (e3 k) (by kernel_rfl)))
def t1 (f2 : T2) (f3 : T3) : T1 := fun x3 x4 x5 m1 => (iteB (decide (x5 ≤ ((List.length m1.1 : Nat) : Int))) (mustR (room ([] : List Bool) x4) (f2 x3 x4 x5 (([] : List Bool) ++ x4) (0 : Int) m1)) (f3 x3))
theorem e1 (k n1 : Nat) : u1 k (n1 + 1) = t1 (l2 k n1 k) (l3 k) := by kernel_rfl
theorem g1 (k n1 : Nat) : l1 k (n1 + 1) = u1 k (n1 + 1) := funext fun _ => funext fun _ => funext fun _ => funext fun _ => cut_u _ _ _
def p1 (k : Nat) : Nat → T1
  | 0 => fun _ _ _ _ => none
  | n1 + 1 => t1 (p2 k (p1 k n1) k) (p3 k)
theorem o1 (k : Nat) : ∀ n1, l1 k n1 = p1 k n1 := by
  intro n1
  induction n1 with
  | zero => kernel_rfl
  | succ n1 ih => exact (Eq.trans (b := u1 k (n1 + 1)) (g1 k n1) (Eq.trans (b := t1 (l2 k n1 k) (l3 k)) (e1 k n1) (Eq.trans (b := t1 (p2 k (p1 k n1) k) (p3 k)) (congr (congrArg t1 (o2 k n1 (p1 k n1) ih k)) (o3 k)) (by kernel_rfl))))
def t0 (f1 : T1) : T0 := fun x0 => (mustR (decide (((List.length x0.1 : Nat) : Int) = ((List.length x0.1 : Nat) : Int) ∧ (0 : Int) ≤ ((List.length x0.1 : Nat) : Int) ∧ ((List.length x0.1 : Nat) : Int) ≤ (16777216 : Int))) (mustR (decide (((List.length x0.1 : Nat) : Int) = ((List.length x0.1 : Nat) : Int) ∧ (0 : Int) ≤ ((List.length x0.1 : Nat) : Int) ∧ ((List.length x0.1 : Nat) : Int) ≤ (16777216 : Int))) (f1 (List.replicate (Int.toNat ((List.length x0.1 : Nat) : Int)) (0 : Int)) (List.replicate (Int.toNat ((List.length x0.1 : Nat) : Int)) false) (0 : Int) x0)))
theorem e0 (k : Nat) : u0 k = t0 (l1 k k) := by kernel_rfl
def p0 (k : Nat) : T0 := t0 (p1 k k)
theorem o0 (k : Nat) : u0 k = p0 k := (Eq.trans (b := t0 (l1 k k)) (e0 k) (Eq.trans (b := t0 (p1 k k)) (congrArg t0 (o1 k k)) (by kernel_rfl)))
end Q80
def s_Q80 (a : D0 × Unit) : Option ((List Int) × Unit) := Q80.p0 fuel a.1
def F_Q80 : FSpec cx.toNm := { ps := [.val ty0], nres := 1, rt := (.slice 3 (.int .i64)), rm := .ro, f := s_Q80 }
theorem w_Q80 (a : D0 × Unit) : runOf (S := cx) Q80.E Q80.h fuel Try.f35 F_Q80.ps F_Q80.rt F_Q80.rm a = F_Q80.f a := Eq.trans (b := Q80.u0 fuel a.1) (by kernel_rfl) (Eq.trans (b := Q80.p0 fuel a.1) (congrFun (Q80.o0 fuel) a.1) (by kernel_rfl))
theorem ok_Q80 : FnOk Try.prog F_Q80 35 := fn_of (hn := Q80.h) (E := Q80.E) cxOk (tysT _ _) fs_nil follows Try.func35 (by kernel_rfl) (fun a r h => ⟨fuel, Eq.trans (w_Q80 a) h⟩)
def Fr_Q81 (f : (D0 × (Int × ((List Int) × (Int × Unit)))) → Option ((Option N1) × ((List Int) × Unit))) : FSpec cx.toNm := { ps := [.val ty0, .val (.int .i64), .io (.slice 5 (.int .u8)) .ro, .val (.int .i64)], nres := 1, rt := (.ptr 1), rm := .ro, f := f }
namespace Q81
def E (sf_Q81 : Y_Q81) : Env cx := { tys := tys, fs := fsOf [(14, (Fr_Q81 sf_Q81)), (35, F_Q80)] }
abbrev R := Option ((Option N1) × ((List Int) × Unit))
abbrev C := Exit → ST cx → R
noncomputable def b : Code := bodyC Try.f14
def h : Hint := { vs := [0, 1, 2, 3, 4, 8, 9, 10, 11, 12, 13, 14, 15], nil := [(10, (.own .ro)), (81, (.pr .ro (.pr .ro (.pr .ro (.pr (.own .ro) .ro)))))], cuts := [(5, ([1, 2, 3, 4, 9], [4, 1000002]), ([1, 2, 3, 4, 9], [4, 1000002])), (9, ([1, 2, 3, 4, 9, 10, 11], [4, 1000002]), ([1, 2, 3, 4, 9, 10], [4, 1000002])), (10, ([1, 2, 3, 4, 9, 10, 11], [4, 1000002]), ([1, 2, 3, 4, 9, 10, 11], [4, 1000002])), (13, ([1, 2, 3, 4, 9, 10], [4, 1000002]), ([1, 2, 3, 4, 9, 10], [4, 1000002])), (16, ([1, 2, 3, 4, 12], [4, 1000002]), ([1, 2, 3, 4, 12], [4, 1000002])), (18, ([2, 3, 4, 12, 13, 14], [4, 82, 1000002]), ([2, 13], [82, 1000002])), (23, ([2, 13], [82, 1000002]), ([2, 13], [82, 1000002]))], ret := ([2, 8], [4, 45, 82, 1000002]), ords := [] }
def K0 (sf_Q81 : Y_Q81) : C := fin (S := cx) (E sf_Q81) Try.f14.results.toList (.ptr 1) .ro [1000002] [((.slice 5 (.int .u8)), .ro)]
def c0 : Code := subC b [1]
def K1 (sf_Q81 : Y_Q81) (k : Nat) : C := outD h c0 (K0 sf_Q81)
def c1 : Code := subC b [1, 1]
def K3 (sf_Q81 : Y_Q81) (k : Nat) : C := outD h c1 (K1 sf_Q81 k)
def c2 : Code := subC b [1, 1, 1]
def K5 (sf_Q81 : Y_Q81) (k : Nat) : C := outD h c2 (K3 sf_Q81 k)
def c5 : Code := subC b [1, 1, 1, 1]
def K11 (sf_Q81 : Y_Q81) (k : Nat) : C := outD h c5 (K5 sf_Q81 k)
def c8 : Code := subC b [1, 1, 1, 1, 1]
def K17 (sf_Q81 : Y_Q81) (k : Nat) : C := outD h c8 (K11 sf_Q81 k)
def c9 : Code := subC b [1, 1, 1, 1, 1, 1]
def K19 (sf_Q81 : Y_Q81) (k : Nat) : C := outD h c9 (K17 sf_Q81 k)
def K20 (sf_Q81 : Y_Q81) (k : Nat) : C := seqC (E sf_Q81) h k c9 (K17 sf_Q81 k)
def c10 : Code := subC b [1, 1, 1, 1, 1, 0, 1]
def K21 (sf_Q81 : Y_Q81) (k : Nat) : C := outD h c10 (K20 sf_Q81 k)
def K23 (sf_Q81 : Y_Q81) (k : Nat) : C := blockK 0 (K21 sf_Q81 k)
def c11 : Code := subC b [1, 1, 1, 1, 1, 0, 1, 0, 0]
def K24 (sf_Q81 : Y_Q81) (k n2 : Nat) : C := loopD (E sf_Q81) h k c11 (K23 sf_Q81 k) n2
def c12 : Code := subC b [1, 1, 1, 1, 1, 0, 1, 0, 0, 1]
def K25 (sf_Q81 : Y_Q81) (k n2 : Nat) : C := outD h c12 (K24 sf_Q81 k n2)
def c14 : Code := subC b [1, 1, 1, 1, 1, 0, 1, 0, 0, 1, 1]
def K29 (sf_Q81 : Y_Q81) (k n2 : Nat) : C := outD h c14 (K25 sf_Q81 k n2)
def c16 : Code := subC b [1, 1, 1, 1, 1, 1, 1]
def K34 (sf_Q81 : Y_Q81) (k : Nat) : C := outD h c16 (K19 sf_Q81 k)
def c17 : Code := subC b [1, 1, 1, 1, 1, 1, 1, 1]
def K36 (sf_Q81 : Y_Q81) (k : Nat) : C := outD h c17 (K34 sf_Q81 k)
def c19 : Code := subC b [1, 1, 1, 1, 1, 1, 1, 1, 1]
def K40 (sf_Q81 : Y_Q81) (k : Nat) : C := outD h c19 (K36 sf_Q81 k)
def c20 : Code := subC b [1, 1, 1, 1, 1, 1, 1, 1, 1, 1]
def K42 (sf_Q81 : Y_Q81) (k : Nat) : C := outD h c20 (K40 sf_Q81 k)
def K43 (sf_Q81 : Y_Q81) (k : Nat) : C := seqC (E sf_Q81) h k c20 (K40 sf_Q81 k)
def c21 : Code := subC b [1, 1, 1, 1, 1, 1, 1, 1, 1, 0, 1]
def K44 (sf_Q81 : Y_Q81) (k : Nat) : C := outD h c21 (K43 sf_Q81 k)
def K46 (sf_Q81 : Y_Q81) (k : Nat) : C := blockK 2 (K44 sf_Q81 k)
def c22 : Code := subC b [1, 1, 1, 1, 1, 1, 1, 1, 1, 0, 1, 0, 0]
abbrev T3 := Int → Int → Int → (List Int) → Int → D0 → (List Int) → R
abbrev T7 := D1 → (List Int) → R
abbrev T6 := Int → Int → Int → D0 → D1 → (List Int) → R
abbrev T5 := Int → Int → Int → D0 → (List Int) → R
abbrev T4 := Int → Int → Int → (List Int) → D0 → (List Int) → R
abbrev T2 := Int → Int → Int → (List Int) → Int → D0 → (List Int) → R
abbrev T1 := Int → Int → Int → D0 → (List Int) → R
abbrev T0 := D0 → Int → (List Int) → Int → R
abbrev s3 := fun x1 x3 x9 x10 x11 m4 m1000002 => (⟨[(1, .v (.int .i64) .ro x1), (2, .addr (.mem 1000002) []), (3, .v (.int .i64) .ro x3), (4, .addr (.mem 4) []), (9, .v (.int .i64) .ro x9), (10, .v (.slice 3 (.int .i64)) (.own .ro) x10), (11, .v (.int .i64) .ro x11)], [], [(4, ⟨ty0, .ro, m4⟩), (1000002, ⟨(.slice 5 (.int .u8)), .ro, m1000002⟩)]⟩ : ST cx)
def u3 (sf_Q81 : Y_Q81) (k n2 : Nat) : T3 := fun x1 x3 x9 x10 x11 m4 m1000002 => uK (run (E sf_Q81) h k c14) (s3 x1 x3 x9 x10 x11 m4 m1000002) (K29 sf_Q81 k n2)
abbrev l3 (sf_Q81 : Y_Q81) (k n2 : Nat) : T3 := fun x1 x3 x9 x10 x11 m4 m1000002 => cutK (run (E sf_Q81) h k c14) (s3 x1 x3 x9 x10 x11 m4 m1000002) (K29 sf_Q81 k n2)
abbrev s7 := fun m82 m1000002 => (⟨[(2, .addr (.mem 1000002) []), (13, .addr (.mem 82) [])], [], [(82, ⟨ty1, (.pr .ro (.pr .ro (.pr .ro (.pr (.own .ro) .ro)))), m82⟩), (1000002, ⟨(.slice 5 (.int .u8)), .ro, m1000002⟩)]⟩ : ST cx)
def u7 (sf_Q81 : Y_Q81) (k : Nat) : T7 := fun m82 m1000002 => uK (run (E sf_Q81) h k c20) (s7 m82 m1000002) (K42 sf_Q81 k)
abbrev l7 (sf_Q81 : Y_Q81) (k : Nat) : T7 := fun m82 m1000002 => cutK (run (E sf_Q81) h k c20) (s7 m82 m1000002) (K42 sf_Q81 k)
abbrev s6 := fun x3 x12 x14 m4 m82 m1000002 => (⟨[(2, .addr (.mem 1000002) []), (3, .v (.int .i64) .ro x3), (4, .addr (.mem 4) []), (12, .v (.int .i64) .ro x12), (13, .addr (.mem 82) []), (14, .v (.int .i64) .ro x14)], [], [(4, ⟨ty0, .ro, m4⟩), (82, ⟨ty1, (.pr .ro (.pr .ro (.pr .ro (.pr (.own .ro) .ro)))), m82⟩), (1000002, ⟨(.slice 5 (.int .u8)), .ro, m1000002⟩)]⟩ : ST cx)
def u6 (sf_Q81 : Y_Q81) (k n6 : Nat) : T6 := fun x3 x12 x14 m4 m82 m1000002 => uK (loopL (E sf_Q81) h k c22 (K46 sf_Q81 k) n6) (s6 x3 x12 x14 m4 m82 m1000002) ()
abbrev l6 (sf_Q81 : Y_Q81) (k n6 : Nat) : T6 := fun x3 x12 x14 m4 m82 m1000002 => cutK (loopL (E sf_Q81) h k c22 (K46 sf_Q81 k) n6) (s6 x3 x12 x14 m4 m82 m1000002) ()
abbrev s5 := fun x1 x3 x12 m4 m1000002 => (⟨[(1, .v (.int .i64) .ro x1), (2, .addr (.mem 1000002) []), (3, .v (.int .i64) .ro x3), (4, .addr (.mem 4) []), (12, .v (.int .i64) .ro x12)], [], [(4, ⟨ty0, .ro, m4⟩), (1000002, ⟨(.slice 5 (.int .u8)), .ro, m1000002⟩)]⟩ : ST cx)
def u5 (sf_Q81 : Y_Q81) (k : Nat) : T5 := fun x1 x3 x12 m4 m1000002 => uK (run (E sf_Q81) h k c17) (s5 x1 x3 x12 m4 m1000002) (K36 sf_Q81 k)
abbrev l5 (sf_Q81 : Y_Q81) (k : Nat) : T5 := fun x1 x3 x12 m4 m1000002 => cutK (run (E sf_Q81) h k c17) (s5 x1 x3 x12 m4 m1000002) (K36 sf_Q81 k)
abbrev s4 := fun x1 x3 x9 x10 m4 m1000002 => (⟨[(1, .v (.int .i64) .ro x1), (2, .addr (.mem 1000002) []), (3, .v (.int .i64) .ro x3), (4, .addr (.mem 4) []), (9, .v (.int .i64) .ro x9), (10, .v (.slice 3 (.int .i64)) (.own .ro) x10)], [], [(4, ⟨ty0, .ro, m4⟩), (1000002, ⟨(.slice 5 (.int .u8)), .ro, m1000002⟩)]⟩ : ST cx)
def u4 (sf_Q81 : Y_Q81) (k : Nat) : T4 := fun x1 x3 x9 x10 m4 m1000002 => uK (run (E sf_Q81) h k c9) (s4 x1 x3 x9 x10 m4 m1000002) (K19 sf_Q81 k)
abbrev l4 (sf_Q81 : Y_Q81) (k : Nat) : T4 := fun x1 x3 x9 x10 m4 m1000002 => cutK (run (E sf_Q81) h k c9) (s4 x1 x3 x9 x10 m4 m1000002) (K19 sf_Q81 k)
abbrev s2 := fun x1 x3 x9 x10 x11 m4 m1000002 => (⟨[(1, .v (.int .i64) .ro x1), (2, .addr (.mem 1000002) []), (3, .v (.int .i64) .ro x3), (4, .addr (.mem 4) []), (9, .v (.int .i64) .ro x9), (10, .v (.slice 3 (.int .i64)) (.own .ro) x10), (11, .v (.int .i64) .ro x11)], [], [(4, ⟨ty0, .ro, m4⟩), (1000002, ⟨(.slice 5 (.int .u8)), .ro, m1000002⟩)]⟩ : ST cx)
def u2 (sf_Q81 : Y_Q81) (k n2 : Nat) : T2 := fun x1 x3 x9 x10 x11 m4 m1000002 => uK (loopL (E sf_Q81) h k c11 (K23 sf_Q81 k) n2) (s2 x1 x3 x9 x10 x11 m4 m1000002) ()
abbrev l2 (sf_Q81 : Y_Q81) (k n2 : Nat) : T2 := fun x1 x3 x9 x10 x11 m4 m1000002 => cutK (loopL (E sf_Q81) h k c11 (K23 sf_Q81 k) n2) (s2 x1 x3 x9 x10 x11 m4 m1000002) ()
abbrev s1 := fun x1 x3 x9 m4 m1000002 => (⟨[(1, .v (.int .i64) .ro x1), (2, .addr (.mem 1000002) []), (3, .v (.int .i64) .ro x3), (4, .addr (.mem 4) []), (9, .v (.int .i64) .ro x9)], [], [(4, ⟨ty0, .ro, m4⟩), (1000002, ⟨(.slice 5 (.int .u8)), .ro, m1000002⟩)]⟩ : ST cx)
def u1 (sf_Q81 : Y_Q81) (k : Nat) : T1 := fun x1 x3 x9 m4 m1000002 => uK (run (E sf_Q81) h k c2) (s1 x1 x3 x9 m4 m1000002) (K5 sf_Q81 k)
abbrev l1 (sf_Q81 : Y_Q81) (k : Nat) : T1 := fun x1 x3 x9 m4 m1000002 => cutK (run (E sf_Q81) h k c2) (s1 x1 x3 x9 m4 m1000002) (K5 sf_Q81 k)
def u0 (sf_Q81 : Y_Q81) (k : Nat) : T0 := fun x0 x1 x2 x3 => runOf (S := cx) (E sf_Q81) h k Try.f14 [.val ty0, .val (.int .i64), .io (.slice 5 (.int .u8)) .ro, .val (.int .i64)] (.ptr 1) .ro (x0, x1, x2, x3, ())
def t3 (sf_Q81 : Y_Q81) (f2 : T2) : T3 := fun x1 x3 x9 x10 x11 m4 m1000002 => (f2 x1 x3 x9 x10 (w64 (x11 + (1 : Int))) m4 m1000002)
theorem e3 (sf_Q81 : Y_Q81) (k n2 : Nat) : u3 sf_Q81 k n2 = t3 sf_Q81 (l2 sf_Q81 k n2) := by kernel_rfl
theorem g3 (sf_Q81 : Y_Q81) (k n2 : Nat) : l3 sf_Q81 k n2 = u3 sf_Q81 k n2 := funext fun _ => funext fun _ => funext fun _ => funext fun _ => funext fun _ => funext fun _ => funext fun _ => cut_u _ _ _
def p3 (sf_Q81 : Y_Q81) (k : Nat) (a2 : T2) : T3 := t3 sf_Q81 a2
theorem o3 (sf_Q81 : Y_Q81) (k n2 : Nat) (a2 : T2) (h2 : l2 sf_Q81 k n2 = a2) : l3 sf_Q81 k n2 = p3 sf_Q81 k a2 := (Eq.trans (b := u3 sf_Q81 k n2) (g3 sf_Q81 k n2) (Eq.trans (b := t3 sf_Q81 (l2 sf_Q81 k n2)) (e3 sf_Q81 k n2) (Eq.trans (b := t3 sf_Q81 a2) (congrArg (t3 sf_Q81) h2) (by kernel_rfl))))
def t7 (sf_Q81 : Y_Q81) : T7 := fun m82 m1000002 => (some ((some (pk1 m82)), (m1000002, ())))
theorem e7 (sf_Q81 : Y_Q81) (k : Nat) : u7 sf_Q81 k = t7 sf_Q81 := by kernel_rfl
theorem g7 (sf_Q81 : Y_Q81) (k : Nat) : l7 sf_Q81 k = u7 sf_Q81 k := funext fun _ => funext fun _ => cut_u _ _ _
def p7 (sf_Q81 : Y_Q81) (k : Nat) : T7 := t7 sf_Q81
theorem o7 (sf_Q81 : Y_Q81) (k : Nat) : l7 sf_Q81 k = p7 sf_Q81 k := (Eq.trans (b := u7 sf_Q81 k) (g7 sf_Q81 k) (Eq.trans (b := t7 sf_Q81) (e7 sf_Q81 k) (by kernel_rfl)))
def t6 (sf_Q81 : Y_Q81) (f6 : T6) (f7 : T7) : T6 := fun x3 x12 x14 m4 m82 m1000002 => (wnR x12 (List.length m4.2.2.2.1) fun q6 => (iteB (decide (x14 < ((List.length (List.getD m4.2.2.2.1 q6 ((0 : Int), ([] : List Int))).2 : Nat) : Int))) (wnR x12 (List.length m4.2.2.2.1) fun q7 => (wnR x14 (List.length (List.getD m4.2.2.2.1 q7 ((0 : Int), ([] : List Int))).2) fun q8 => (bindR (sf_Q81 (m4, ((List.getD (List.getD m4.2.2.2.1 q7 ((0 : Int), ([] : List Int))).2 q8 (0 : Int)), (m1000002, ((w64 (x3 - (1 : Int))), ()))))) fun r9 => (mustR (room m82.2.2.2.1 ([r9.1] : List (Option N1))) (bindR r9.1 fun z10 => (f6 x3 x12 (w64 (x14 + (1 : Int))) m4 (m82.1, (m82.2.1, (m82.2.2.1, ((m82.2.2.2.1 ++ ([r9.1] : List (Option N1))), ((w64 (m82.2.2.2.2.1 + (out1 z10).2.2.2.2.1)), m82.2.2.2.2.2))))) r9.2.1)))))) (f7 m82 m1000002)))
theorem e6 (sf_Q81 : Y_Q81) (k n6 : Nat) : u6 sf_Q81 k (n6 + 1) = t6 sf_Q81 (l6 sf_Q81 k n6) (l7 sf_Q81 k) := by kernel_rfl
theorem g6 (sf_Q81 : Y_Q81) (k n6 : Nat) : l6 sf_Q81 k (n6 + 1) = u6 sf_Q81 k (n6 + 1) := funext fun _ => funext fun _ => funext fun _ => funext fun _ => funext fun _ => funext fun _ => cut_u _ _ _
def p6 (sf_Q81 : Y_Q81) (k : Nat) : Nat → T6
  | 0 => fun _ _ _ _ _ _ => none
  | n6 + 1 => t6 sf_Q81 (p6 sf_Q81 k n6) (p7 sf_Q81 k)
theorem o6 (sf_Q81 : Y_Q81) (k : Nat) : ∀ n6, l6 sf_Q81 k n6 = p6 sf_Q81 k n6 := by
  intro n6
  induction n6 with
  | zero => kernel_rfl
  | succ n6 ih => exact (Eq.trans (b := u6 sf_Q81 k (n6 + 1)) (g6 sf_Q81 k n6) (Eq.trans (b := t6 sf_Q81 (l6 sf_Q81 k n6) (l7 sf_Q81 k)) (e6 sf_Q81 k n6) (Eq.trans (b := t6 sf_Q81 (p6 sf_Q81 k n6) (p7 sf_Q81 k)) (congr (congrArg (t6 sf_Q81) ih) (o7 sf_Q81 k)) (by kernel_rfl))))
def t5 (sf_Q81 : Y_Q81) (f6 : T6) : T5 := fun x1 x3 x12 m4 m1000002 => (f6 x3 x12 (0 : Int) m4 (x1, (x12, (([] : List UInt8), (([] : List (Option N1)), ((0 : Int), (0 : Int)))))) m1000002)
theorem e5 (sf_Q81 : Y_Q81) (k : Nat) : u5 sf_Q81 k = t5 sf_Q81 (l6 sf_Q81 k k) := by kernel_rfl
theorem g5 (sf_Q81 : Y_Q81) (k : Nat) : l5 sf_Q81 k = u5 sf_Q81 k := funext fun _ => funext fun _ => funext fun _ => funext fun _ => funext fun _ => cut_u _ _ _
def p5 (sf_Q81 : Y_Q81) (k : Nat) : T5 := t5 sf_Q81 (p6 sf_Q81 k k)
theorem o5 (sf_Q81 : Y_Q81) (k : Nat) : l5 sf_Q81 k = p5 sf_Q81 k := (Eq.trans (b := u5 sf_Q81 k) (g5 sf_Q81 k) (Eq.trans (b := t5 sf_Q81 (l6 sf_Q81 k k)) (e5 sf_Q81 k) (Eq.trans (b := t5 sf_Q81 (p6 sf_Q81 k k)) (congrArg (t5 sf_Q81) (o6 sf_Q81 k k)) (by kernel_rfl))))
def t4 (sf_Q81 : Y_Q81) (f5 : T5) : T4 := fun x1 x3 x9 x10 m4 m1000002 => (mustR (!decide (((List.length x10 : Nat) : Int) = 0)) (wnR (Int.tmod x9 ((List.length x10 : Nat) : Int)) (List.length x10) fun q3 => (iteB (decide (x3 ≤ (0 : Int))) (bindR (s_Q80 (m4, ())) fun r4 => (wnR x1 (List.length r4.1) fun q5 => (f5 x1 x3 (List.getD r4.1 q5 (0 : Int)) m4 m1000002))) (f5 x1 x3 (List.getD x10 q3 (0 : Int)) m4 m1000002))))
theorem e4 (sf_Q81 : Y_Q81) (k : Nat) : u4 sf_Q81 k = t4 sf_Q81 (l5 sf_Q81 k) := by kernel_rfl
theorem g4 (sf_Q81 : Y_Q81) (k : Nat) : l4 sf_Q81 k = u4 sf_Q81 k := funext fun _ => funext fun _ => funext fun _ => funext fun _ => funext fun _ => funext fun _ => cut_u _ _ _
def p4 (sf_Q81 : Y_Q81) (k : Nat) : T4 := t4 sf_Q81 (p5 sf_Q81 k)
theorem o4 (sf_Q81 : Y_Q81) (k : Nat) : l4 sf_Q81 k = p4 sf_Q81 k := (Eq.trans (b := u4 sf_Q81 k) (g4 sf_Q81 k) (Eq.trans (b := t4 sf_Q81 (l5 sf_Q81 k)) (e4 sf_Q81 k) (Eq.trans (b := t4 sf_Q81 (p5 sf_Q81 k)) (congrArg (t4 sf_Q81) (o5 sf_Q81 k)) (by kernel_rfl))))
def t2 (sf_Q81 : Y_Q81) (f3 : T3) (f4 : T4) : T2 := fun x1 x3 x9 x10 x11 m4 m1000002 => (iteB (decide (x11 < ((List.length m4.2.2.2.1 : Nat) : Int))) (wnR x11 (List.length m4.2.2.2.1) fun q2 => (iteB (decide ((List.getD m4.2.2.2.1 q2 ((0 : Int), ([] : List Int))).1 = x1)) (mustR (room x10 ([x11] : List Int)) (f3 x1 x3 x9 (x10 ++ ([x11] : List Int)) x11 m4 m1000002)) (f3 x1 x3 x9 x10 x11 m4 m1000002))) (f4 x1 x3 x9 x10 m4 m1000002))
theorem e2 (sf_Q81 : Y_Q81) (k n2 : Nat) : u2 sf_Q81 k (n2 + 1) = t2 sf_Q81 (l3 sf_Q81 k n2) (l4 sf_Q81 k) := by kernel_rfl
theorem g2 (sf_Q81 : Y_Q81) (k n2 : Nat) : l2 sf_Q81 k (n2 + 1) = u2 sf_Q81 k (n2 + 1) := funext fun _ => funext fun _ => funext fun _ => funext fun _ => funext fun _ => funext fun _ => funext fun _ => cut_u _ _ _
def p2 (sf_Q81 : Y_Q81) (k : Nat) : Nat → T2
  | 0 => fun _ _ _ _ _ _ _ => none
  | n2 + 1 => t2 sf_Q81 (p3 sf_Q81 k (p2 sf_Q81 k n2)) (p4 sf_Q81 k)
theorem o2 (sf_Q81 : Y_Q81) (k : Nat) : ∀ n2, l2 sf_Q81 k n2 = p2 sf_Q81 k n2 := by
  intro n2
  induction n2 with
  | zero => kernel_rfl
  | succ n2 ih => exact (Eq.trans (b := u2 sf_Q81 k (n2 + 1)) (g2 sf_Q81 k n2) (Eq.trans (b := t2 sf_Q81 (l3 sf_Q81 k n2) (l4 sf_Q81 k)) (e2 sf_Q81 k n2) (Eq.trans (b := t2 sf_Q81 (p3 sf_Q81 k (p2 sf_Q81 k n2)) (p4 sf_Q81 k)) (congr (congrArg (t2 sf_Q81) (o3 sf_Q81 k n2 (p2 sf_Q81 k n2) ih)) (o4 sf_Q81 k)) (by kernel_rfl))))
def t1 (sf_Q81 : Y_Q81) (f2 : T2) : T1 := fun x1 x3 x9 m4 m1000002 => (iteB (decide (x1 < m4.2.1)) (some ((some (pk1 (x1, ((-1 : Int), ((bytesOf ([(w8 ((w64 ((97 : Int) + (Int.tmod x9 (26 : Int))))))] : List Int)), (([] : List (Option N1)), ((1 : Int), (0 : Int)))))))), (m1000002, ()))) (f2 x1 x3 x9 ([] : List Int) (0 : Int) m4 m1000002))
theorem e1 (sf_Q81 : Y_Q81) (k : Nat) : u1 sf_Q81 k = t1 sf_Q81 (l2 sf_Q81 k k) := by kernel_rfl
theorem g1 (sf_Q81 : Y_Q81) (k : Nat) : l1 sf_Q81 k = u1 sf_Q81 k := funext fun _ => funext fun _ => funext fun _ => funext fun _ => funext fun _ => cut_u _ _ _
def p1 (sf_Q81 : Y_Q81) (k : Nat) : T1 := t1 sf_Q81 (p2 sf_Q81 k k)
theorem o1 (sf_Q81 : Y_Q81) (k : Nat) : l1 sf_Q81 k = p1 sf_Q81 k := (Eq.trans (b := u1 sf_Q81 k) (g1 sf_Q81 k) (Eq.trans (b := t1 sf_Q81 (l2 sf_Q81 k k)) (e1 sf_Q81 k) (Eq.trans (b := t1 sf_Q81 (p2 sf_Q81 k k)) (congrArg (t1 sf_Q81) (o2 sf_Q81 k k)) (by kernel_rfl))))
def t0 (sf_Q81 : Y_Q81) (f1 : T1) : T0 := fun x0 x1 x2 x3 => (iteB (decide ((0 : Int) < ((List.length x2 : Nat) : Int))) (wnR (0 : Int) (List.length x2) fun q1 => (mustR (decide (0 ≤ (1 : Int))) (mustR (decide ((1 : Int) ≤ (((List.length x2) : Nat) : Int))) (f1 x1 x3 (w64 ((List.getD x2 q1 (0 : Int)))) x0 (List.drop (Int.toNat (1 : Int)) (List.take (List.length x2) x2)))))) (f1 x1 x3 (0 : Int) x0 x2))
theorem e0 (sf_Q81 : Y_Q81) (k : Nat) : u0 sf_Q81 k = t0 sf_Q81 (l1 sf_Q81 k) := by kernel_rfl
def p0 (sf_Q81 : Y_Q81) (k : Nat) : T0 := t0 sf_Q81 (p1 sf_Q81 k)
theorem o0 (sf_Q81 : Y_Q81) (k : Nat) : u0 sf_Q81 k = p0 sf_Q81 k := (Eq.trans (b := t0 sf_Q81 (l1 sf_Q81 k)) (e0 sf_Q81 k) (Eq.trans (b := t0 sf_Q81 (p1 sf_Q81 k)) (congrArg (t0 sf_Q81) (o1 sf_Q81 k)) (by kernel_rfl)))
end Q81
def r_Q81 : Nat → (D0 × (Int × ((List Int) × (Int × Unit)))) → Option ((Option N1) × ((List Int) × Unit))
  | 0, _ => none
  | n + 1, a => Q81.p0 (r_Q81 n) fuel a.1 a.2.1 a.2.2.1 a.2.2.2.1
theorem okr_Q81 : ∀ n, FnOk Try.prog (Fr_Q81 (r_Q81 n)) 14
  | 0 => fn_none (fun _ => rfl)
  | n + 1 => fn_of (F := Fr_Q81 (r_Q81 (n + 1))) (hn := Q81.h) (E := Q81.E (r_Q81 n)) cxOk (tysT _ _) (fs_cons (okr_Q81 n) (fs_cons ok_Q80 fs_nil)) follows Try.func14 (by kernel_rfl) (fun a r h => ⟨fuel, Eq.trans (c := some r) (congrFun (congrFun (congrFun (congrFun (Q81.o0 (r_Q81 n) fuel) a.1) a.2.1) a.2.2.1) a.2.2.2.1) h⟩)
def s_Q81 (a : D0 × (Int × ((List Int) × (Int × Unit)))) : Option ((Option N1) × ((List Int) × Unit)) := r_Q81 fuel a
def F_Q81 : FSpec cx.toNm := Fr_Q81 s_Q81
theorem ok_Q81 : FnOk Try.prog F_Q81 14 := fun w Z own vs a r h1 h2 h3 h4 => (okr_Q81 fuel) w Z own vs a r h1 h2 h3 h4
namespace Q82
def E : Env cx := { tys := tys, fs := fsOf [(18, F_Q52)] }
abbrev R := Option ((List (Option N1)) × Unit)
abbrev C := Exit → ST cx → R
noncomputable def b : Code := bodyC Try.f8
def h : Hint := { vs := [0, 2, 3, 4], nil := [(3, (.own .ro)), (2, (.own .ro))], cuts := [(3, ([0, 3, 4], []), ([3], [])), (6, ([3], []), ([3], []))], ret := ([2], []), ords := [] }
def K0 : C := fin (S := cx) E Try.f8.results.toList (.slice 35 (.ptr 1)) (.own .ro) [] []
def c0 : Code := subC b [1]
def K1 (k : Nat) : C := outD h c0 K0
def c1 : Code := subC b [1, 1]
def K3 (k : Nat) : C := outD h c1 (K1 k)
def c2 : Code := subC b [1, 1, 1]
def K5 (k : Nat) : C := outD h c2 (K3 k)
def K6 (k : Nat) : C := seqC E h k c2 (K3 k)
def c3 : Code := subC b [1, 1, 0, 1]
def K7 (k : Nat) : C := outD h c3 (K6 k)
def K9 (k : Nat) : C := blockK 0 (K7 k)
def c4 : Code := subC b [1, 1, 0, 1, 0, 0]
abbrev T2 := (List (Option N1)) → R
abbrev T1 := (List N0) → (List (Option N1)) → Int → R
abbrev T0 := (List N0) → R
abbrev s2 := fun x3 => (⟨[(3, .v (.slice 35 (.ptr 1)) (.own .ro) x3)], [], []⟩ : ST cx)
def u2 (k : Nat) : T2 := fun x3 => uK (run E h k c2) (s2 x3) (K5 k)
abbrev l2 (k : Nat) : T2 := fun x3 => cutK (run E h k c2) (s2 x3) (K5 k)
abbrev s1 := fun x0 x3 x4 => (⟨[(0, .v (.slice 51 (.named 0)) .ro x0), (3, .v (.slice 35 (.ptr 1)) (.own .ro) x3), (4, .v (.int .i64) .ro x4)], [], []⟩ : ST cx)
def u1 (k n1 : Nat) : T1 := fun x0 x3 x4 => uK (loopL E h k c4 (K9 k) n1) (s1 x0 x3 x4) ()
abbrev l1 (k n1 : Nat) : T1 := fun x0 x3 x4 => cutK (loopL E h k c4 (K9 k) n1) (s1 x0 x3 x4) ()
def u0 (k : Nat) : T0 := fun x0 => runOf (S := cx) E h k Try.f8 [.val (.slice 51 (.named 0))] (.slice 35 (.ptr 1)) (.own .ro) (x0, ())
def t2 : T2 := fun x3 => (some (x3, ()))
theorem e2 (k : Nat) : u2 k = t2 := by kernel_rfl
theorem g2 (k : Nat) : l2 k = u2 k := funext fun _ => cut_u _ _ _
def p2 (k : Nat) : T2 := t2
theorem o2 (k : Nat) : l2 k = p2 k := (Eq.trans (b := u2 k) (g2 k) (Eq.trans (b := t2) (e2 k) (by kernel_rfl)))
def t1 (f1 : T1) (f2 : T2) : T1 := fun x0 x3 x4 => (iteB (decide (x4 < ((List.length x0 : Nat) : Int))) (wnR x4 (List.length x0) fun q1 => (bindR (s_Q52 ((out0 (List.getD x0 q1 (pk0 (false, ((0 : Int), ((0 : Int), (([] : List UInt8), (([] : List N0), ((0 : Int), (0 : Int)))))))))), ())) fun r2 => (mustR (room x3 ([r2.1] : List (Option N1))) (f1 x0 (x3 ++ ([r2.1] : List (Option N1))) (w64 (x4 + (1 : Int))))))) (f2 x3))
theorem e1 (k n1 : Nat) : u1 k (n1 + 1) = t1 (l1 k n1) (l2 k) := by kernel_rfl
theorem g1 (k n1 : Nat) : l1 k (n1 + 1) = u1 k (n1 + 1) := funext fun _ => funext fun _ => funext fun _ => cut_u _ _ _
def p1 (k : Nat) : Nat → T1
  | 0 => fun _ _ _ => none
  | n1 + 1 => t1 (p1 k n1) (p2 k)
theorem o1 (k : Nat) : ∀ n1, l1 k n1 = p1 k n1 := by
  intro n1
  induction n1 with
  | zero => kernel_rfl
  | succ n1 ih => exact (Eq.trans (b := u1 k (n1 + 1)) (g1 k n1) (Eq.trans (b := t1 (l1 k n1) (l2 k)) (e1 k n1) (Eq.trans (b := t1 (p1 k n1) (p2 k)) (congr (congrArg t1 ih) (o2 k)) (by kernel_rfl))))
def t0 (f1 : T1) : T0 := fun x0 => (f1 x0 ([] : List (Option N1)) (0 : Int))
theorem e0 (k : Nat) : u0 k = t0 (l1 k k) := by kernel_rfl
def p0 (k : Nat) : T0 := t0 (p1 k k)
theorem o0 (k : Nat) : u0 k = p0 k := (Eq.trans (b := t0 (l1 k k)) (e0 k) (Eq.trans (b := t0 (p1 k k)) (congrArg t0 (o1 k k)) (by kernel_rfl)))
end Q82
def s_Q82 (a : (List N0) × Unit) : Option ((List (Option N1)) × Unit) := Q82.p0 fuel a.1
def F_Q82 : FSpec cx.toNm := { ps := [.val (.slice 51 (.named 0))], nres := 1, rt := (.slice 35 (.ptr 1)), rm := (.own .ro), f := s_Q82 }
theorem w_Q82 (a : (List N0) × Unit) : runOf (S := cx) Q82.E Q82.h fuel Try.f8 F_Q82.ps F_Q82.rt F_Q82.rm a = F_Q82.f a := Eq.trans (b := Q82.u0 fuel a.1) (by kernel_rfl) (Eq.trans (b := Q82.p0 fuel a.1) (congrFun (Q82.o0 fuel) a.1) (by kernel_rfl))
theorem ok_Q82 : FnOk Try.prog F_Q82 8 := fn_of (hn := Q82.h) (E := Q82.E) cxOk (tysT _ _) (fs_cons ok_Q52 fs_nil) follows Try.func8 (by kernel_rfl) (fun a r h => ⟨fuel, Eq.trans (w_Q82 a) h⟩)
namespace Q83
def E : Env cx := { tys := tys, fs := fsOf [(9, F_Q49), (12, F_Q8), (14, F_Q81)] }
abbrev R := Option ((Option N1) × Unit)
abbrev C := Exit → ST cx → R
noncomputable def b : Code := bodyC Try.f13
def h : Hint := { vs := [0, 1, 2, 4, 5, 6], nil := [(43, (.own .ro))], cuts := [(2, ([1, 2, 27], [2]), ([1, 2], [2])), (3, ([1, 2], [2]), ([1, 2], [2])), (4, ([1, 2, 5], [2]), ([1, 2], [2])), (8, ([1, 2], [2]), ([1, 2], [2]))], ret := ([4], [2, 6]), ords := [] }
def K0 : C := fin (S := cx) E Try.f13.results.toList (.ptr 1) .ro [] []
def c0 : Code := subC b [1]
def K1 (k : Nat) : C := outD h c0 K0
def c1 : Code := subC b [1, 1]
def K3 (k : Nat) : C := outD h c1 (K1 k)
def K4 (k : Nat) : C := seqC E h k c1 (K1 k)
def c2 : Code := subC b [1, 0, 1]
def K5 (k : Nat) : C := outD h c2 (K4 k)
def c4 : Code := subC b [1, 1, 1]
def K9 (k : Nat) : C := outD h c4 (K3 k)
def K10 (k : Nat) : C := seqC E h k c4 (K3 k)
def c5 : Code := subC b [1, 1, 0, 1]
def K11 (k : Nat) : C := outD h c5 (K10 k)
def K13 (k : Nat) : C := blockK 0 (K11 k)
def c6 : Code := subC b [1, 1, 0, 1, 0, 0]
abbrev T4 := (List Int) → D0 → R
abbrev T3 := (List Int) → Int → D0 → R
abbrev T2 := (List Int) → D0 → R
abbrev T1 := (List Int) → Bool → D0 → R
abbrev T0 := D0 → (List Int) → R
abbrev s4 := fun x1 m2 => (⟨[(1, .v (.slice 5 (.int .u8)) .ro x1), (2, .addr (.mem 2) [])], [], [(2, ⟨ty0, .ro, m2⟩)]⟩ : ST cx)
def u4 (k : Nat) : T4 := fun x1 m2 => uK (run E h k c4) (s4 x1 m2) (K9 k)
abbrev l4 (k : Nat) : T4 := fun x1 m2 => cutK (run E h k c4) (s4 x1 m2) (K9 k)
abbrev s3 := fun x1 x5 m2 => (⟨[(1, .v (.slice 5 (.int .u8)) .ro x1), (2, .addr (.mem 2) []), (5, .v (.int .i64) .ro x5)], [], [(2, ⟨ty0, .ro, m2⟩)]⟩ : ST cx)
def u3 (k n3 : Nat) : T3 := fun x1 x5 m2 => uK (loopL E h k c6 (K13 k) n3) (s3 x1 x5 m2) ()
abbrev l3 (k n3 : Nat) : T3 := fun x1 x5 m2 => cutK (loopL E h k c6 (K13 k) n3) (s3 x1 x5 m2) ()
abbrev s2 := fun x1 m2 => (⟨[(1, .v (.slice 5 (.int .u8)) .ro x1), (2, .addr (.mem 2) [])], [], [(2, ⟨ty0, .ro, m2⟩)]⟩ : ST cx)
def u2 (k : Nat) : T2 := fun x1 m2 => uK (run E h k c1) (s2 x1 m2) (K3 k)
abbrev l2 (k : Nat) : T2 := fun x1 m2 => cutK (run E h k c1) (s2 x1 m2) (K3 k)
abbrev s1 := fun x1 x27 m2 => (⟨[(1, .v (.slice 5 (.int .u8)) .ro x1), (2, .addr (.mem 2) []), (27, .v .bool .ro x27)], [], [(2, ⟨ty0, .ro, m2⟩)]⟩ : ST cx)
def u1 (k : Nat) : T1 := fun x1 x27 m2 => uK (run E h k c2) (s1 x1 x27 m2) (K5 k)
abbrev l1 (k : Nat) : T1 := fun x1 x27 m2 => cutK (run E h k c2) (s1 x1 x27 m2) (K5 k)
def u0 (k : Nat) : T0 := fun x0 x1 => runOf (S := cx) E h k Try.f13 [.val ty0, .val (.slice 5 (.int .u8))] (.ptr 1) .ro (x0, x1, ())
def t4 : T4 := fun x1 m2 => (mustR (room ([] : List Int) x1) (bindR (s_Q81 (m2, (m2.2.2.1, ((([] : List Int) ++ x1), ((4 : Int), ()))))) fun r4 => (some (r4.1, ()))))
theorem e4 (k : Nat) : u4 k = t4 := by kernel_rfl
theorem g4 (k : Nat) : l4 k = u4 k := funext fun _ => funext fun _ => cut_u _ _ _
def p4 (k : Nat) : T4 := t4
theorem o4 (k : Nat) : l4 k = p4 k := (Eq.trans (b := u4 k) (g4 k) (Eq.trans (b := t4) (e4 k) (by kernel_rfl)))
def t3 (f3 : T3) (f4 : T4) : T3 := fun x1 x5 m2 => (iteB (decide (x5 < ((List.length m2.2.2.2.1 : Nat) : Int))) (wnR x5 (List.length m2.2.2.2.1) fun q3 => (iteB (decide ((3 : Int) < ((List.length (List.getD m2.2.2.2.1 q3 ((0 : Int), ([] : List Int))).2 : Nat) : Int))) (some (none, ())) (f3 x1 (w64 (x5 + (1 : Int))) m2))) (f4 x1 m2))
theorem e3 (k n3 : Nat) : u3 k (n3 + 1) = t3 (l3 k n3) (l4 k) := by kernel_rfl
theorem g3 (k n3 : Nat) : l3 k (n3 + 1) = u3 k (n3 + 1) := funext fun _ => funext fun _ => funext fun _ => cut_u _ _ _
def p3 (k : Nat) : Nat → T3
  | 0 => fun _ _ _ => none
  | n3 + 1 => t3 (p3 k n3) (p4 k)
theorem o3 (k : Nat) : ∀ n3, l3 k n3 = p3 k n3 := by
  intro n3
  induction n3 with
  | zero => kernel_rfl
  | succ n3 ih => exact (Eq.trans (b := u3 k (n3 + 1)) (g3 k n3) (Eq.trans (b := t3 (l3 k n3) (l4 k)) (e3 k n3) (Eq.trans (b := t3 (p3 k n3) (p4 k)) (congr (congrArg t3 ih) (o4 k)) (by kernel_rfl))))
def t2 (f3 : T3) : T2 := fun x1 m2 => (f3 x1 (0 : Int) m2)
theorem e2 (k : Nat) : u2 k = t2 (l3 k k) := by kernel_rfl
theorem g2 (k : Nat) : l2 k = u2 k := funext fun _ => funext fun _ => cut_u _ _ _
def p2 (k : Nat) : T2 := t2 (p3 k k)
theorem o2 (k : Nat) : l2 k = p2 k := (Eq.trans (b := u2 k) (g2 k) (Eq.trans (b := t2 (l3 k k)) (e2 k) (Eq.trans (b := t2 (p3 k k)) (congrArg t2 (o3 k k)) (by kernel_rfl))))
def t1 (f2 : T2) : T1 := fun x1 x27 m2 => (iteB x27 (some (none, ())) (f2 x1 m2))
theorem e1 (k : Nat) : u1 k = t1 (l2 k) := by kernel_rfl
theorem g1 (k : Nat) : l1 k = u1 k := funext fun _ => funext fun _ => funext fun _ => cut_u _ _ _
def p1 (k : Nat) : T1 := t1 (p2 k)
theorem o1 (k : Nat) : l1 k = p1 k := (Eq.trans (b := u1 k) (g1 k) (Eq.trans (b := t1 (l2 k)) (e1 k) (Eq.trans (b := t1 (p2 k)) (congrArg t1 (o2 k)) (by kernel_rfl))))
def t0 (f1 : T1) : T0 := fun x0 x1 => (bindR (s_Q49 (x0, ())) fun r1 => (iteB r1.1 (f1 x1 true x0) (bindR (s_Q8 (x0, ())) fun r2 => (iteB (notB r2.1) (f1 x1 true x0) (iteB (decide ((60 : Int) < ((List.length x1 : Nat) : Int))) (f1 x1 true x0) (f1 x1 (decide ((w64 (x0.2.1 + (5 : Int))) < ((List.length x0.1 : Nat) : Int))) x0))))))
theorem e0 (k : Nat) : u0 k = t0 (l1 k) := by kernel_rfl
def p0 (k : Nat) : T0 := t0 (p1 k)
theorem o0 (k : Nat) : u0 k = p0 k := (Eq.trans (b := t0 (l1 k)) (e0 k) (Eq.trans (b := t0 (p1 k)) (congrArg t0 (o1 k)) (by kernel_rfl)))
end Q83
def s_Q83 (a : D0 × ((List Int) × Unit)) : Option ((Option N1) × Unit) := Q83.p0 fuel a.1 a.2.1
def F_Q83 : FSpec cx.toNm := { ps := [.val ty0, .val (.slice 5 (.int .u8))], nres := 1, rt := (.ptr 1), rm := .ro, f := s_Q83 }
theorem w_Q83 (a : D0 × ((List Int) × Unit)) : runOf (S := cx) Q83.E Q83.h fuel Try.f13 F_Q83.ps F_Q83.rt F_Q83.rm a = F_Q83.f a := Eq.trans (b := Q83.u0 fuel a.1 a.2.1) (by kernel_rfl) (Eq.trans (b := Q83.p0 fuel a.1 a.2.1) (congrFun (congrFun (Q83.o0 fuel) a.1) a.2.1) (by kernel_rfl))
theorem ok_Q83 : FnOk Try.prog F_Q83 13 := fn_of (hn := Q83.h) (E := Q83.E) cxOk (tysT _ _) (fs_cons ok_Q49 (fs_cons ok_Q8 (fs_cons ok_Q81 fs_nil))) follows Try.func13 (by kernel_rfl) (fun a r h => ⟨fuel, Eq.trans (w_Q83 a) h⟩)
namespace Q84
def E : Env cx := { tys := tys, fs := fsOf [(7, F_Q79), (8, F_Q82), (9, F_Q49), (10, F_Q68), (11, F_Q69), (12, F_Q8), (13, F_Q83), (14, F_Q81), (15, F_Q74), (16, F_Q66), (17, F_Q65)] }
abbrev R := Option (Bool × Unit)
abbrev C := Exit → ST cx → R
noncomputable def b : Code := bodyC Try.f3
def h : Hint := { vs := [0, 1, 2, 3, 4, 5, 6, 12, 13, 14, 15, 16, 17, 18, 19, 20, 21, 22], nil := [(117, (.own .ro)), (13, (.own .ro)), (16, .ro)], cuts := [(5, ([1, 2, 3, 4, 6, 13, 33], [6]), ([1, 2, 3, 4, 6, 13], [6])), (6, ([1, 2, 3, 4, 6, 13], [6]), ([1, 2, 3, 4, 6, 13], [6])), (7, ([1, 2, 3, 4, 6, 13, 14], [6]), ([1, 2, 3, 4, 6, 13], [6])), (11, ([1, 2, 3, 4, 6, 13], [6]), ([1, 2, 3, 4, 6, 13], [6])), (13, ([1, 4, 6, 13, 87], [6]), ([1, 4, 6, 13], [6])), (14, ([1, 4, 6, 13], [6]), ([1, 4, 6, 13], [6])), (15, ([1, 4, 6, 13, 116], [6]), ([1, 6, 13], [6])), (18, ([1, 6, 13, 16, 17], [6, 16]), ([1, 6, 13], [6])), (21, ([1, 6, 13], [6]), ([1, 6, 13], [6])), (23, ([1, 6, 13, 18, 19, 20], [6]), ([1, 6, 13, 18, 19, 20], [6])), (25, ([1, 6, 13, 18, 19, 20, 21, 22], [6, 168]), ([1, 6, 18, 19, 20, 21], [6, 168])), (26, ([1, 6, 13, 18, 19, 20, 21, 22], [6, 168]), ([1, 6, 13, 18, 19, 20, 21, 22], [6, 168])), (27, ([1, 6, 13, 18, 19, 21, 22], [6, 168]), ([1, 6, 13, 18, 19, 20, 21, 22], [6, 168])), (30, ([1, 6, 18, 19, 20, 21], [6, 168]), ([1, 6, 18, 19, 20, 21], [6, 168])), (33, ([18, 19, 20, 21], [168]), ([18, 19, 20, 21], [168])), (1000004, ([1, 6, 13, 18, 19, 20, 21, 22, 175], [6, 168]), ([1, 6, 13, 18, 19, 21, 22], [6, 168]))], ret := ([12], [6, 16, 168]), ords := [] }
def K0 : C := fin (S := cx) E Try.f3.results.toList .bool .ro [] []
def c0 : Code := subC b [1]
def K1 (k : Nat) : C := outD h c0 K0
def c1 : Code := subC b [1, 1]
def K3 (k : Nat) : C := outD h c1 (K1 k)
def c4 : Code := subC b [1, 1, 1]
def K9 (k : Nat) : C := outD h c4 (K3 k)
def c5 : Code := subC b [1, 1, 1, 1]
def K11 (k : Nat) : C := outD h c5 (K9 k)
def K12 (k : Nat) : C := seqC E h k c5 (K9 k)
def c6 : Code := subC b [1, 1, 1, 0, 1]
def K13 (k : Nat) : C := outD h c6 (K12 k)
def c8 : Code := subC b [1, 1, 1, 1, 1]
def K17 (k : Nat) : C := outD h c8 (K11 k)
def K18 (k : Nat) : C := seqC E h k c8 (K11 k)
def c9 : Code := subC b [1, 1, 1, 1, 0, 1]
def K19 (k : Nat) : C := outD h c9 (K18 k)
def K21 (k : Nat) : C := blockK 0 (K19 k)
def c10 : Code := subC b [1, 1, 1, 1, 0, 1, 0, 0]
def c16 : Code := subC b [1, 1, 1, 1, 1, 1]
def K34 (k : Nat) : C := outD h c16 (K17 k)
def c17 : Code := subC b [1, 1, 1, 1, 1, 1, 1]
def K36 (k : Nat) : C := outD h c17 (K34 k)
def K37 (k : Nat) : C := seqC E h k c17 (K34 k)
def c18 : Code := subC b [1, 1, 1, 1, 1, 1, 0, 1]
def K38 (k : Nat) : C := outD h c18 (K37 k)
def c20 : Code := subC b [1, 1, 1, 1, 1, 1, 1, 1]
def K42 (k : Nat) : C := outD h c20 (K36 k)
def K43 (k : Nat) : C := seqC E h k c20 (K36 k)
def c21 : Code := subC b [1, 1, 1, 1, 1, 1, 1, 0, 1]
def K44 (k : Nat) : C := outD h c21 (K43 k)
def c22 : Code := subC b [1, 1, 1, 1, 1, 1, 1, 0, 1, 0, 1]
def K46 (k : Nat) : C := outD h c22 (K44 k)
def c23 : Code := subC b [1, 1, 1, 1, 1, 1, 1, 0, 1, 0, 1, 1]
def K48 (k : Nat) : C := outD h c23 (K46 k)
def c24 : Code := subC b [1, 1, 1, 1, 1, 1, 1, 0, 1, 0, 1, 1, 1]
def K50 (k : Nat) : C := outD h c24 (K48 k)
def K52 (k : Nat) : C := blockK 2 (K50 k)
def c25 : Code := subC b [1, 1, 1, 1, 1, 1, 1, 0, 1, 0, 1, 1, 1, 0, 0]
def c29 : Code := subC b [1, 1, 1, 1, 1, 1, 1, 1, 1]
def K61 (k : Nat) : C := outD h c29 (K42 k)
def c30 : Code := subC b [1, 1, 1, 1, 1, 1, 1, 1, 1, 1]
def K63 (k : Nat) : C := outD h c30 (K61 k)
def c31 : Code := subC b [1, 1, 1, 1, 1, 1, 1, 1, 1, 1, 1]
def K65 (k : Nat) : C := outD h c31 (K63 k)
def c32 : Code := subC b [1, 1, 1, 1, 1, 1, 1, 1, 1, 1, 1, 1]
def K67 (k : Nat) : C := outD h c32 (K65 k)
def K68 (k : Nat) : C := seqC E h k c32 (K65 k)
def c33 : Code := subC b [1, 1, 1, 1, 1, 1, 1, 1, 1, 1, 1, 0, 1]
def K69 (k : Nat) : C := outD h c33 (K68 k)
def K71 (k : Nat) : C := blockK 4 (K69 k)
def c34 : Code := subC b [1, 1, 1, 1, 1, 1, 1, 1, 1, 1, 1, 0, 1, 0, 0]
def K72 (k n11 : Nat) : C := loopD E h k c34 (K71 k) n11
def c35 : Code := subC b [1, 1, 1, 1, 1, 1, 1, 1, 1, 1, 1, 0, 1, 0, 0, 1]
def K73 (k n11 : Nat) : C := outD h c35 (K72 k n11)
def K74 (k n11 : Nat) : C := seqC E h k c35 (K72 k n11)
def c36 : Code := subC b [1, 1, 1, 1, 1, 1, 1, 1, 1, 1, 1, 0, 1, 0, 0, 0, 1]
def K75 (k n11 : Nat) : C := outD h c36 (K74 k n11)
def c37 : Code := subC b [1, 1, 1, 1, 1, 1, 1, 1, 1, 1, 1, 0, 1, 0, 0, 1, 1]
def K77 (k n11 : Nat) : C := outD h c37 (K73 k n11)
def c40 : Code := subC b [1, 1, 1, 1, 1, 1, 1, 1, 1, 1, 1, 1, 1]
def K84 (k : Nat) : C := outD h c40 (K67 k)
abbrev T15 := Int → (List (Option N1)) → (Option N1) → Int → Bool → Int → D0 → D1 → R
abbrev T13 := Int → (List (Option N1)) → (Option N1) → Int → Int → D0 → D1 → R
abbrev T16 := (Option N1) → Int → Bool → D1 → R
abbrev T14 := Int → (Option N1) → Int → Bool → D0 → D1 → R
abbrev T12 := Int → (List (Option N1)) → (Option N1) → Int → Bool → Int → Bool → D0 → D1 → R
abbrev T11 := Int → (List (Option N1)) → (Option N1) → Int → Bool → Int → D0 → D1 → R
abbrev T10 := Int → (List (Option N1)) → (Option N1) → Int → Bool → D0 → R
abbrev T9 := Int → (List (Option N1)) → D0 → R
abbrev T8 := Int → (List (Option N1)) → Int → D0 → (List Int) → R
abbrev T7 := Int → (List Int) → (List (Option N1)) → Bool → D0 → R
abbrev T6 := Int → (List Int) → (List (Option N1)) → D0 → R
abbrev T5 := Int → (List Int) → (List (Option N1)) → Bool → D0 → R
abbrev T4 := Int → Int → (List UInt8) → (List Int) → (List (Option N1)) → D0 → R
abbrev T3 := Int → Int → (List UInt8) → (List Int) → (List (Option N1)) → Int → D0 → R
abbrev T2 := Int → Int → (List UInt8) → (List Int) → (List (Option N1)) → D0 → R
abbrev T1 := Int → Int → (List UInt8) → (List Int) → (List (Option N1)) → Bool → D0 → R
abbrev T0 := D0 → Int → Int → (List UInt8) → (List Int) → (List N0) → R
abbrev s15 := fun x1 x13 x18 x19 x20 x22 m6 m168 => (⟨[(1, .v (.int .i64) .ro x1), (6, .addr (.mem 6) []), (13, .v (.slice 35 (.ptr 1)) .ro x13), (18, .v (.ptr 1) .ro x18), (19, .v (.int .i64) .ro x19), (20, .v .bool .ro x20), (21, .addr (.mem 168) []), (22, .v (.int .i64) .ro x22)], [], [(6, ⟨ty0, .ro, m6⟩), (168, ⟨ty1, .ro, m168⟩)]⟩ : ST cx)
def u15 (k n11 : Nat) : T15 := fun x1 x13 x18 x19 x20 x22 m6 m168 => uK (run E h k c37) (s15 x1 x13 x18 x19 x20 x22 m6 m168) (K77 k n11)
abbrev l15 (k n11 : Nat) : T15 := fun x1 x13 x18 x19 x20 x22 m6 m168 => cutK (run E h k c37) (s15 x1 x13 x18 x19 x20 x22 m6 m168) (K77 k n11)
abbrev s13 := fun x1 x13 x18 x19 x22 m6 m168 => (⟨[(1, .v (.int .i64) .ro x1), (6, .addr (.mem 6) []), (13, .v (.slice 35 (.ptr 1)) .ro x13), (18, .v (.ptr 1) .ro x18), (19, .v (.int .i64) .ro x19), (21, .addr (.mem 168) []), (22, .v (.int .i64) .ro x22)], [], [(6, ⟨ty0, .ro, m6⟩), (168, ⟨ty1, .ro, m168⟩)]⟩ : ST cx)
def u13 (k n11 : Nat) : T13 := fun x1 x13 x18 x19 x22 m6 m168 => uK (run E h k c35) (s13 x1 x13 x18 x19 x22 m6 m168) (K73 k n11)
abbrev l13 (k n11 : Nat) : T13 := fun x1 x13 x18 x19 x22 m6 m168 => cutK (run E h k c35) (s13 x1 x13 x18 x19 x22 m6 m168) (K73 k n11)
abbrev s16 := fun x18 x19 x20 m168 => (⟨[(18, .v (.ptr 1) .ro x18), (19, .v (.int .i64) .ro x19), (20, .v .bool .ro x20), (21, .addr (.mem 168) [])], [], [(168, ⟨ty1, .ro, m168⟩)]⟩ : ST cx)
def u16 (k : Nat) : T16 := fun x18 x19 x20 m168 => uK (run E h k c40) (s16 x18 x19 x20 m168) (K84 k)
abbrev l16 (k : Nat) : T16 := fun x18 x19 x20 m168 => cutK (run E h k c40) (s16 x18 x19 x20 m168) (K84 k)
abbrev s14 := fun x1 x18 x19 x20 m6 m168 => (⟨[(1, .v (.int .i64) .ro x1), (6, .addr (.mem 6) []), (18, .v (.ptr 1) .ro x18), (19, .v (.int .i64) .ro x19), (20, .v .bool .ro x20), (21, .addr (.mem 168) [])], [], [(6, ⟨ty0, .ro, m6⟩), (168, ⟨ty1, .ro, m168⟩)]⟩ : ST cx)
def u14 (k : Nat) : T14 := fun x1 x18 x19 x20 m6 m168 => uK (run E h k c32) (s14 x1 x18 x19 x20 m6 m168) (K67 k)
abbrev l14 (k : Nat) : T14 := fun x1 x18 x19 x20 m6 m168 => cutK (run E h k c32) (s14 x1 x18 x19 x20 m6 m168) (K67 k)
abbrev s12 := fun x1 x13 x18 x19 x20 x22 x175 m6 m168 => (⟨[(1, .v (.int .i64) .ro x1), (6, .addr (.mem 6) []), (13, .v (.slice 35 (.ptr 1)) .ro x13), (18, .v (.ptr 1) .ro x18), (19, .v (.int .i64) .ro x19), (20, .v .bool .ro x20), (21, .addr (.mem 168) []), (22, .v (.int .i64) .ro x22), (175, .v .bool .ro x175)], [], [(6, ⟨ty0, .ro, m6⟩), (168, ⟨ty1, .ro, m168⟩)]⟩ : ST cx)
def u12 (k n11 : Nat) : T12 := fun x1 x13 x18 x19 x20 x22 x175 m6 m168 => uK (run E h k c36) (s12 x1 x13 x18 x19 x20 x22 x175 m6 m168) (K75 k n11)
abbrev l12 (k n11 : Nat) : T12 := fun x1 x13 x18 x19 x20 x22 x175 m6 m168 => cutK (run E h k c36) (s12 x1 x13 x18 x19 x20 x22 x175 m6 m168) (K75 k n11)
abbrev s11 := fun x1 x13 x18 x19 x20 x22 m6 m168 => (⟨[(1, .v (.int .i64) .ro x1), (6, .addr (.mem 6) []), (13, .v (.slice 35 (.ptr 1)) .ro x13), (18, .v (.ptr 1) .ro x18), (19, .v (.int .i64) .ro x19), (20, .v .bool .ro x20), (21, .addr (.mem 168) []), (22, .v (.int .i64) .ro x22)], [], [(6, ⟨ty0, .ro, m6⟩), (168, ⟨ty1, .ro, m168⟩)]⟩ : ST cx)
def u11 (k n11 : Nat) : T11 := fun x1 x13 x18 x19 x20 x22 m6 m168 => uK (loopL E h k c34 (K71 k) n11) (s11 x1 x13 x18 x19 x20 x22 m6 m168) ()
abbrev l11 (k n11 : Nat) : T11 := fun x1 x13 x18 x19 x20 x22 m6 m168 => cutK (loopL E h k c34 (K71 k) n11) (s11 x1 x13 x18 x19 x20 x22 m6 m168) ()
abbrev s10 := fun x1 x13 x18 x19 x20 m6 => (⟨[(1, .v (.int .i64) .ro x1), (6, .addr (.mem 6) []), (13, .v (.slice 35 (.ptr 1)) .ro x13), (18, .v (.ptr 1) .ro x18), (19, .v (.int .i64) .ro x19), (20, .v .bool .ro x20)], [], [(6, ⟨ty0, .ro, m6⟩)]⟩ : ST cx)
def u10 (k : Nat) : T10 := fun x1 x13 x18 x19 x20 m6 => uK (run E h k c30) (s10 x1 x13 x18 x19 x20 m6) (K63 k)
abbrev l10 (k : Nat) : T10 := fun x1 x13 x18 x19 x20 m6 => cutK (run E h k c30) (s10 x1 x13 x18 x19 x20 m6) (K63 k)
abbrev s9 := fun x1 x13 m6 => (⟨[(1, .v (.int .i64) .ro x1), (6, .addr (.mem 6) []), (13, .v (.slice 35 (.ptr 1)) (.own .ro) x13)], [], [(6, ⟨ty0, .ro, m6⟩)]⟩ : ST cx)
def u9 (k : Nat) : T9 := fun x1 x13 m6 => uK (run E h k c20) (s9 x1 x13 m6) (K42 k)
abbrev l9 (k : Nat) : T9 := fun x1 x13 m6 => cutK (run E h k c20) (s9 x1 x13 m6) (K42 k)
abbrev s8 := fun x1 x13 x17 m6 m16 => (⟨[(1, .v (.int .i64) .ro x1), (6, .addr (.mem 6) []), (13, .v (.slice 35 (.ptr 1)) (.own .ro) x13), (16, .addr (.mem 16) []), (17, .v (.int .i64) .ro x17)], [], [(6, ⟨ty0, .ro, m6⟩), (16, ⟨(.slice 5 (.int .u8)), .ro, m16⟩)]⟩ : ST cx)
def u8 (k n8 : Nat) : T8 := fun x1 x13 x17 m6 m16 => uK (loopL E h k c25 (K52 k) n8) (s8 x1 x13 x17 m6 m16) ()
abbrev l8 (k n8 : Nat) : T8 := fun x1 x13 x17 m6 m16 => cutK (loopL E h k c25 (K52 k) n8) (s8 x1 x13 x17 m6 m16) ()
abbrev s7 := fun x1 x4 x13 x116 m6 => (⟨[(1, .v (.int .i64) .ro x1), (4, .v (.slice 5 (.int .u8)) .ro x4), (6, .addr (.mem 6) []), (13, .v (.slice 35 (.ptr 1)) (.own .ro) x13), (116, .v .bool .ro x116)], [], [(6, ⟨ty0, .ro, m6⟩)]⟩ : ST cx)
def u7 (k : Nat) : T7 := fun x1 x4 x13 x116 m6 => uK (run E h k c21) (s7 x1 x4 x13 x116 m6) (K44 k)
abbrev l7 (k : Nat) : T7 := fun x1 x4 x13 x116 m6 => cutK (run E h k c21) (s7 x1 x4 x13 x116 m6) (K44 k)
abbrev s6 := fun x1 x4 x13 m6 => (⟨[(1, .v (.int .i64) .ro x1), (4, .v (.slice 5 (.int .u8)) .ro x4), (6, .addr (.mem 6) []), (13, .v (.slice 35 (.ptr 1)) (.own .ro) x13)], [], [(6, ⟨ty0, .ro, m6⟩)]⟩ : ST cx)
def u6 (k : Nat) : T6 := fun x1 x4 x13 m6 => uK (run E h k c17) (s6 x1 x4 x13 m6) (K36 k)
abbrev l6 (k : Nat) : T6 := fun x1 x4 x13 m6 => cutK (run E h k c17) (s6 x1 x4 x13 m6) (K36 k)
abbrev s5 := fun x1 x4 x13 x87 m6 => (⟨[(1, .v (.int .i64) .ro x1), (4, .v (.slice 5 (.int .u8)) .ro x4), (6, .addr (.mem 6) []), (13, .v (.slice 35 (.ptr 1)) (.own .ro) x13), (87, .v .bool .ro x87)], [], [(6, ⟨ty0, .ro, m6⟩)]⟩ : ST cx)
def u5 (k : Nat) : T5 := fun x1 x4 x13 x87 m6 => uK (run E h k c18) (s5 x1 x4 x13 x87 m6) (K38 k)
abbrev l5 (k : Nat) : T5 := fun x1 x4 x13 x87 m6 => cutK (run E h k c18) (s5 x1 x4 x13 x87 m6) (K38 k)
abbrev s4 := fun x1 x2 x3 x4 x13 m6 => (⟨[(1, .v (.int .i64) .ro x1), (2, .v (.int .i64) .ro x2), (3, .v .str .ro x3), (4, .v (.slice 5 (.int .u8)) .ro x4), (6, .addr (.mem 6) []), (13, .v (.slice 35 (.ptr 1)) (.own .ro) x13)], [], [(6, ⟨ty0, .ro, m6⟩)]⟩ : ST cx)
def u4 (k : Nat) : T4 := fun x1 x2 x3 x4 x13 m6 => uK (run E h k c8) (s4 x1 x2 x3 x4 x13 m6) (K17 k)
abbrev l4 (k : Nat) : T4 := fun x1 x2 x3 x4 x13 m6 => cutK (run E h k c8) (s4 x1 x2 x3 x4 x13 m6) (K17 k)
abbrev s3 := fun x1 x2 x3 x4 x13 x14 m6 => (⟨[(1, .v (.int .i64) .ro x1), (2, .v (.int .i64) .ro x2), (3, .v .str .ro x3), (4, .v (.slice 5 (.int .u8)) .ro x4), (6, .addr (.mem 6) []), (13, .v (.slice 35 (.ptr 1)) (.own .ro) x13), (14, .v (.int .i64) .ro x14)], [], [(6, ⟨ty0, .ro, m6⟩)]⟩ : ST cx)
def u3 (k n3 : Nat) : T3 := fun x1 x2 x3 x4 x13 x14 m6 => uK (loopL E h k c10 (K21 k) n3) (s3 x1 x2 x3 x4 x13 x14 m6) ()
abbrev l3 (k n3 : Nat) : T3 := fun x1 x2 x3 x4 x13 x14 m6 => cutK (loopL E h k c10 (K21 k) n3) (s3 x1 x2 x3 x4 x13 x14 m6) ()
abbrev s2 := fun x1 x2 x3 x4 x13 m6 => (⟨[(1, .v (.int .i64) .ro x1), (2, .v (.int .i64) .ro x2), (3, .v .str .ro x3), (4, .v (.slice 5 (.int .u8)) .ro x4), (6, .addr (.mem 6) []), (13, .v (.slice 35 (.ptr 1)) (.own .ro) x13)], [], [(6, ⟨ty0, .ro, m6⟩)]⟩ : ST cx)
def u2 (k : Nat) : T2 := fun x1 x2 x3 x4 x13 m6 => uK (run E h k c5) (s2 x1 x2 x3 x4 x13 m6) (K11 k)
abbrev l2 (k : Nat) : T2 := fun x1 x2 x3 x4 x13 m6 => cutK (run E h k c5) (s2 x1 x2 x3 x4 x13 m6) (K11 k)
abbrev s1 := fun x1 x2 x3 x4 x13 x33 m6 => (⟨[(1, .v (.int .i64) .ro x1), (2, .v (.int .i64) .ro x2), (3, .v .str .ro x3), (4, .v (.slice 5 (.int .u8)) .ro x4), (6, .addr (.mem 6) []), (13, .v (.slice 35 (.ptr 1)) (.own .ro) x13), (33, .v .bool .ro x33)], [], [(6, ⟨ty0, .ro, m6⟩)]⟩ : ST cx)
def u1 (k : Nat) : T1 := fun x1 x2 x3 x4 x13 x33 m6 => uK (run E h k c6) (s1 x1 x2 x3 x4 x13 x33 m6) (K13 k)
abbrev l1 (k : Nat) : T1 := fun x1 x2 x3 x4 x13 x33 m6 => cutK (run E h k c6) (s1 x1 x2 x3 x4 x13 x33 m6) (K13 k)
def u0 (k : Nat) : T0 := fun x0 x1 x2 x3 x4 x5 => runOf (S := cx) E h k Try.f3 [.val ty0, .val (.int .i64), .val (.int .i64), .val .str, .val (.slice 5 (.int .u8)), .val (.slice 51 (.named 0))] .bool .ro (x0, x1, x2, x3, x4, x5, ())
def t15 (f11 : T11) : T15 := fun x1 x13 x18 x19 x20 x22 m6 m168 => (f11 x1 x13 x18 x19 x20 (w64 (x22 + (1 : Int))) m6 m168)
theorem e15 (k n11 : Nat) : u15 k n11 = t15 (l11 k n11) := by kernel_rfl
theorem g15 (k n11 : Nat) : l15 k n11 = u15 k n11 := funext fun _ => funext fun _ => funext fun _ => funext fun _ => funext fun _ => funext fun _ => funext fun _ => funext fun _ => cut_u _ _ _
def p15 (k : Nat) (a11 : T11) : T15 := t15 a11
theorem o15 (k n11 : Nat) (a11 : T11) (h11 : l11 k n11 = a11) : l15 k n11 = p15 k a11 := (Eq.trans (b := u15 k n11) (g15 k n11) (Eq.trans (b := t15 (l11 k n11)) (e15 k n11) (Eq.trans (b := t15 a11) (congrArg t15 h11) (by kernel_rfl))))
def t13 (f15 : T15) : T13 := fun x1 x13 x18 x19 x22 m6 m168 => (wnR x22 (List.length x13) fun q20 => (bindR (s_Q66 (m6, ((List.getD x13 q20 none), ()))) fun r21 => (iteB r21.1 (wnR x22 (List.length x13) fun q22 => (bindR (List.getD x13 q22 none) fun z23 => (f15 x1 x13 x18 x19 r21.1 x22 m6 (m168.1, (m168.2.1, (m168.2.2.1, (m168.2.2.2.1, ((w64 (m168.2.2.2.2.1 + (out1 z23).2.2.2.2.1)), m168.2.2.2.2.2)))))))) (f15 x1 x13 x18 x19 r21.1 x22 m6 m168))))
theorem e13 (k n11 : Nat) : u13 k n11 = t13 (l15 k n11) := by kernel_rfl
theorem g13 (k n11 : Nat) : l13 k n11 = u13 k n11 := funext fun _ => funext fun _ => funext fun _ => funext fun _ => funext fun _ => funext fun _ => funext fun _ => cut_u _ _ _
def p13 (k : Nat) (a11 : T11) : T13 := t13 (p15 k a11)
theorem o13 (k n11 : Nat) (a11 : T11) (h11 : l11 k n11 = a11) : l13 k n11 = p13 k a11 := (Eq.trans (b := u13 k n11) (g13 k n11) (Eq.trans (b := t13 (l15 k n11)) (e13 k n11) (Eq.trans (b := t13 (p15 k a11)) (congrArg t13 (o15 k n11 a11 h11)) (by kernel_rfl))))
def t16 : T16 := fun x18 x19 x20 m168 => (iteB (notB x20) (iteB (Option.isNone x18) (some ((decide (x19 = (1 : Int))), ())) (some (false, ()))) (iteB (decide (x19 = (0 : Int))) (bindR (s_Q65 (x18, ((some (pk1 m168)), ()))) fun r26 => (iteB r26.1 (bindR x18 fun z27 => (some ((decide ((out1 z27).2.2.2.2.1 = m168.2.2.2.2.1)), ()))) (some (false, ())))) (some (false, ()))))
theorem e16 (k : Nat) : u16 k = t16 := by kernel_rfl
theorem g16 (k : Nat) : l16 k = u16 k := funext fun _ => funext fun _ => funext fun _ => funext fun _ => cut_u _ _ _
def p16 (k : Nat) : T16 := t16
theorem o16 (k : Nat) : l16 k = p16 k := (Eq.trans (b := u16 k) (g16 k) (Eq.trans (b := t16) (e16 k) (by kernel_rfl)))
def t14 (f16 : T16) : T14 := fun x1 x18 x19 x20 m6 m168 => (iteB x20 (wnR x1 (List.length m6.2.2.2.1) fun q24 => (bindR (s_Q66 (m6, ((some (pk1 ((List.getD m6.2.2.2.1 q24 ((0 : Int), ([] : List Int))).1, m168.2))), ()))) fun r25 => (f16 x18 x19 r25.1 ((List.getD m6.2.2.2.1 q24 ((0 : Int), ([] : List Int))).1, m168.2)))) (f16 x18 x19 x20 m168))
theorem e14 (k : Nat) : u14 k = t14 (l16 k) := by kernel_rfl
theorem g14 (k : Nat) : l14 k = u14 k := funext fun _ => funext fun _ => funext fun _ => funext fun _ => funext fun _ => funext fun _ => cut_u _ _ _
def p14 (k : Nat) : T14 := t14 (p16 k)
theorem o14 (k : Nat) : l14 k = p14 k := (Eq.trans (b := u14 k) (g14 k) (Eq.trans (b := t14 (l16 k)) (e14 k) (Eq.trans (b := t14 (p16 k)) (congrArg t14 (o16 k)) (by kernel_rfl))))
def t12 (f13 : T13) (f14 : T14) : T12 := fun x1 x13 x18 x19 x20 x22 x175 m6 m168 => (iteB x175 (f13 x1 x13 x18 x19 x22 m6 m168) (f14 x1 x18 x19 x20 m6 m168))
theorem e12 (k n11 : Nat) : u12 k n11 = t12 (l13 k n11) (l14 k) := by kernel_rfl
theorem g12 (k n11 : Nat) : l12 k n11 = u12 k n11 := funext fun _ => funext fun _ => funext fun _ => funext fun _ => funext fun _ => funext fun _ => funext fun _ => funext fun _ => funext fun _ => cut_u _ _ _
def p12 (k : Nat) (a11 : T11) : T12 := t12 (p13 k a11) (p14 k)
theorem o12 (k n11 : Nat) (a11 : T11) (h11 : l11 k n11 = a11) : l12 k n11 = p12 k a11 := (Eq.trans (b := u12 k n11) (g12 k n11) (Eq.trans (b := t12 (l13 k n11) (l14 k)) (e12 k n11) (Eq.trans (b := t12 (p13 k a11) (p14 k)) (congr (congrArg t12 (o13 k n11 a11 h11)) (o14 k)) (by kernel_rfl))))
def t11 (f12 : T12) : T11 := fun x1 x13 x18 x19 x20 x22 m6 m168 => (iteB (decide (x22 < ((List.length x13 : Nat) : Int))) (f12 x1 x13 x18 x19 x20 x22 x20 m6 m168) (f12 x1 x13 x18 x19 x20 x22 false m6 m168))
theorem e11 (k n11 : Nat) : u11 k (n11 + 1) = t11 (l12 k n11) := by kernel_rfl
theorem g11 (k n11 : Nat) : l11 k (n11 + 1) = u11 k (n11 + 1) := funext fun _ => funext fun _ => funext fun _ => funext fun _ => funext fun _ => funext fun _ => funext fun _ => funext fun _ => cut_u _ _ _
def p11 (k : Nat) : Nat → T11
  | 0 => fun _ _ _ _ _ _ _ _ => none
  | n11 + 1 => t11 (p12 k (p11 k n11))
theorem o11 (k : Nat) : ∀ n11, l11 k n11 = p11 k n11 := by
  intro n11
  induction n11 with
  | zero => kernel_rfl
  | succ n11 ih => exact (Eq.trans (b := u11 k (n11 + 1)) (g11 k n11) (Eq.trans (b := t11 (l12 k n11)) (e11 k n11) (Eq.trans (b := t11 (p12 k (p11 k n11))) (congrArg t11 (o12 k n11 (p11 k n11) ih)) (by kernel_rfl))))
def t10 (f11 : T11) : T10 := fun x1 x13 x18 x19 x20 m6 => (f11 x1 x13 x18 x19 x20 (0 : Int) m6 ((0 : Int), (x1, (([] : List UInt8), (x13, ((0 : Int), (0 : Int)))))))
theorem e10 (k : Nat) : u10 k = t10 (l11 k k) := by kernel_rfl
theorem g10 (k : Nat) : l10 k = u10 k := funext fun _ => funext fun _ => funext fun _ => funext fun _ => funext fun _ => funext fun _ => cut_u _ _ _
def p10 (k : Nat) : T10 := t10 (p11 k k)
theorem o10 (k : Nat) : l10 k = p10 k := (Eq.trans (b := u10 k) (g10 k) (Eq.trans (b := t10 (l11 k k)) (e10 k) (Eq.trans (b := t10 (p11 k k)) (congrArg t10 (o11 k k)) (by kernel_rfl))))
def t9 (f10 : T10) : T9 := fun x1 x13 m6 => (bindR (s_Q74 (m6, (x1, (x13, ())))) fun r18 => (bindR (s_Q8 (m6, ())) fun r19 => (iteB r19.1 (iteB (decide ((0 : Int) ≤ x1)) (f10 x1 x13 r18.1.1 r18.1.2 (decide (x1 < ((List.length m6.2.2.2.1 : Nat) : Int))) m6) (f10 x1 x13 r18.1.1 r18.1.2 false m6)) (f10 x1 x13 r18.1.1 r18.1.2 false m6))))
theorem e9 (k : Nat) : u9 k = t9 (l10 k) := by kernel_rfl
theorem g9 (k : Nat) : l9 k = u9 k := funext fun _ => funext fun _ => funext fun _ => cut_u _ _ _
def p9 (k : Nat) : T9 := t9 (p10 k)
theorem o9 (k : Nat) : l9 k = p9 k := (Eq.trans (b := u9 k) (g9 k) (Eq.trans (b := t9 (l10 k)) (e9 k) (Eq.trans (b := t9 (p10 k)) (congrArg t9 (o10 k)) (by kernel_rfl))))
def t8 (f8 : T8) (f9 : T9) : T8 := fun x1 x13 x17 m6 m16 => (wnR x1 (List.length m6.2.2.2.1) fun q14 => (iteB (decide (x17 < ((List.length (List.getD m6.2.2.2.1 q14 ((0 : Int), ([] : List Int))).2 : Nat) : Int))) (wnR x1 (List.length m6.2.2.2.1) fun q15 => (wnR x17 (List.length (List.getD m6.2.2.2.1 q15 ((0 : Int), ([] : List Int))).2) fun q16 => (bindR (s_Q81 (m6, ((List.getD (List.getD m6.2.2.2.1 q15 ((0 : Int), ([] : List Int))).2 q16 (0 : Int)), (m16, ((3 : Int), ()))))) fun r17 => (mustR (room x13 ([r17.1] : List (Option N1))) (f8 x1 (x13 ++ ([r17.1] : List (Option N1))) (w64 (x17 + (1 : Int))) m6 r17.2.1))))) (f9 x1 x13 m6)))
theorem e8 (k n8 : Nat) : u8 k (n8 + 1) = t8 (l8 k n8) (l9 k) := by kernel_rfl
theorem g8 (k n8 : Nat) : l8 k (n8 + 1) = u8 k (n8 + 1) := funext fun _ => funext fun _ => funext fun _ => funext fun _ => funext fun _ => cut_u _ _ _
def p8 (k : Nat) : Nat → T8
  | 0 => fun _ _ _ _ _ => none
  | n8 + 1 => t8 (p8 k n8) (p9 k)
theorem o8 (k : Nat) : ∀ n8, l8 k n8 = p8 k n8 := by
  intro n8
  induction n8 with
  | zero => kernel_rfl
  | succ n8 ih => exact (Eq.trans (b := u8 k (n8 + 1)) (g8 k n8) (Eq.trans (b := t8 (l8 k n8) (l9 k)) (e8 k n8) (Eq.trans (b := t8 (p8 k n8) (p9 k)) (congr (congrArg t8 ih) (o9 k)) (by kernel_rfl))))
def t7 (f8 : T8) (f9 : T9) : T7 := fun x1 x4 x13 x116 m6 => (iteB x116 (mustR (room ([] : List Int) x4) (f8 x1 ([] : List (Option N1)) (0 : Int) m6 (([] : List Int) ++ x4))) (f9 x1 x13 m6))
theorem e7 (k : Nat) : u7 k = t7 (l8 k k) (l9 k) := by kernel_rfl
theorem g7 (k : Nat) : l7 k = u7 k := funext fun _ => funext fun _ => funext fun _ => funext fun _ => funext fun _ => cut_u _ _ _
def p7 (k : Nat) : T7 := t7 (p8 k k) (p9 k)
theorem o7 (k : Nat) : l7 k = p7 k := (Eq.trans (b := u7 k) (g7 k) (Eq.trans (b := t7 (l8 k k) (l9 k)) (e7 k) (Eq.trans (b := t7 (p8 k k) (p9 k)) (congr (congrArg t7 (o8 k k)) (o9 k)) (by kernel_rfl))))
def t6 (f7 : T7) : T6 := fun x1 x4 x13 m6 => (bindR (s_Q8 (m6, ())) fun r12 => (iteB r12.1 (iteB (decide ((0 : Int) ≤ x1)) (iteB (decide (x1 < ((List.length m6.2.2.2.1 : Nat) : Int))) (iteB (decide ((0 : Int) < ((List.length x4 : Nat) : Int))) (iteB (decide (((List.length x4 : Nat) : Int) < (60 : Int))) (bindR (s_Q83 (m6, (x4, ()))) fun r13 => (f7 x1 x4 x13 (!(Option.isNone r13.1)) m6)) (f7 x1 x4 x13 false m6)) (f7 x1 x4 x13 false m6)) (f7 x1 x4 x13 false m6)) (f7 x1 x4 x13 false m6)) (f7 x1 x4 x13 false m6)))
theorem e6 (k : Nat) : u6 k = t6 (l7 k) := by kernel_rfl
theorem g6 (k : Nat) : l6 k = u6 k := funext fun _ => funext fun _ => funext fun _ => funext fun _ => cut_u _ _ _
def p6 (k : Nat) : T6 := t6 (p7 k)
theorem o6 (k : Nat) : l6 k = p6 k := (Eq.trans (b := u6 k) (g6 k) (Eq.trans (b := t6 (l7 k)) (e6 k) (Eq.trans (b := t6 (p7 k)) (congrArg t6 (o7 k)) (by kernel_rfl))))
def t5 (f6 : T6) : T5 := fun x1 x4 x13 x87 m6 => (iteB x87 (some (false, ())) (f6 x1 x4 x13 m6))
theorem e5 (k : Nat) : u5 k = t5 (l6 k) := by kernel_rfl
theorem g5 (k : Nat) : l5 k = u5 k := funext fun _ => funext fun _ => funext fun _ => funext fun _ => funext fun _ => cut_u _ _ _
def p5 (k : Nat) : T5 := t5 (p6 k)
theorem o5 (k : Nat) : l5 k = p5 k := (Eq.trans (b := u5 k) (g5 k) (Eq.trans (b := t5 (l6 k)) (e5 k) (Eq.trans (b := t5 (p6 k)) (congrArg t5 (o6 k)) (by kernel_rfl))))
def t4 (f5 : T5) : T4 := fun x1 x2 x3 x4 x13 m6 => (bindR (s_Q69 (x2, (x3, ()))) fun r6 => (iteB (Option.isNone r6.1) (f5 x1 x4 x13 true m6) (bindR r6.1 fun z7 => (iteB (!decide ((out1 z7).1 = x2)) (f5 x1 x4 x13 true m6) (bindR r6.1 fun z8 => (iteB (!(decide ((out1 z8).2.2.1 = x3))) (f5 x1 x4 x13 true m6) (bindR r6.1 fun z9 => (iteB (!decide ((out1 z9).2.1 = (-1 : Int))) (f5 x1 x4 x13 true m6) (bindR r6.1 fun z10 => (iteB (!decide ((out1 z10).2.2.2.2.1 = (1 : Int))) (f5 x1 x4 x13 true m6) (bindR r6.1 fun z11 => (f5 x1 x4 x13 (decide ((0 : Int) < ((List.length (out1 z11).2.2.2.1 : Nat) : Int))) m6))))))))))))
theorem e4 (k : Nat) : u4 k = t4 (l5 k) := by kernel_rfl
theorem g4 (k : Nat) : l4 k = u4 k := funext fun _ => funext fun _ => funext fun _ => funext fun _ => funext fun _ => funext fun _ => cut_u _ _ _
def p4 (k : Nat) : T4 := t4 (p5 k)
theorem o4 (k : Nat) : l4 k = p4 k := (Eq.trans (b := u4 k) (g4 k) (Eq.trans (b := t4 (l5 k)) (e4 k) (Eq.trans (b := t4 (p5 k)) (congrArg t4 (o5 k)) (by kernel_rfl))))
def t3 (f3 : T3) (f4 : T4) : T3 := fun x1 x2 x3 x4 x13 x14 m6 => (iteB (decide (x14 < ((List.length x13 : Nat) : Int))) (wnR x14 (List.length x13) fun q4 => (bindR (s_Q68 ((List.getD x13 q4 none), ())) fun r5 => (iteB r5.1 (some (true, ())) (f3 x1 x2 x3 x4 x13 (w64 (x14 + (1 : Int))) m6)))) (f4 x1 x2 x3 x4 x13 m6))
theorem e3 (k n3 : Nat) : u3 k (n3 + 1) = t3 (l3 k n3) (l4 k) := by kernel_rfl
theorem g3 (k n3 : Nat) : l3 k (n3 + 1) = u3 k (n3 + 1) := funext fun _ => funext fun _ => funext fun _ => funext fun _ => funext fun _ => funext fun _ => funext fun _ => cut_u _ _ _
def p3 (k : Nat) : Nat → T3
  | 0 => fun _ _ _ _ _ _ _ => none
  | n3 + 1 => t3 (p3 k n3) (p4 k)
theorem o3 (k : Nat) : ∀ n3, l3 k n3 = p3 k n3 := by
  intro n3
  induction n3 with
  | zero => kernel_rfl
  | succ n3 ih => exact (Eq.trans (b := u3 k (n3 + 1)) (g3 k n3) (Eq.trans (b := t3 (l3 k n3) (l4 k)) (e3 k n3) (Eq.trans (b := t3 (p3 k n3) (p4 k)) (congr (congrArg t3 ih) (o4 k)) (by kernel_rfl))))
def t2 (f3 : T3) : T2 := fun x1 x2 x3 x4 x13 m6 => (f3 x1 x2 x3 x4 x13 (0 : Int) m6)
theorem e2 (k : Nat) : u2 k = t2 (l3 k k) := by kernel_rfl
theorem g2 (k : Nat) : l2 k = u2 k := funext fun _ => funext fun _ => funext fun _ => funext fun _ => funext fun _ => funext fun _ => cut_u _ _ _
def p2 (k : Nat) : T2 := t2 (p3 k k)
theorem o2 (k : Nat) : l2 k = p2 k := (Eq.trans (b := u2 k) (g2 k) (Eq.trans (b := t2 (l3 k k)) (e2 k) (Eq.trans (b := t2 (p3 k k)) (congrArg t2 (o3 k k)) (by kernel_rfl))))
def t1 (f2 : T2) : T1 := fun x1 x2 x3 x4 x13 x33 m6 => (iteB x33 (some (true, ())) (f2 x1 x2 x3 x4 x13 m6))
theorem e1 (k : Nat) : u1 k = t1 (l2 k) := by kernel_rfl
theorem g1 (k : Nat) : l1 k = u1 k := funext fun _ => funext fun _ => funext fun _ => funext fun _ => funext fun _ => funext fun _ => funext fun _ => cut_u _ _ _
def p1 (k : Nat) : T1 := t1 (p2 k)
theorem o1 (k : Nat) : l1 k = p1 k := (Eq.trans (b := u1 k) (g1 k) (Eq.trans (b := t1 (l2 k)) (e1 k) (Eq.trans (b := t1 (p2 k)) (congrArg t1 (o2 k)) (by kernel_rfl))))
def t0 (f1 : T1) : T0 := fun x0 x1 x2 x3 x4 x5 => (bindR (s_Q79 ()) fun r1 => (iteB (notB r1.1) (some (false, ())) (bindR (s_Q82 (x5, ())) fun r2 => (bindR (s_Q49 (x0, ())) fun r3 => (iteB r3.1 (f1 x1 x2 x3 x4 r2.1 true x0) (f1 x1 x2 x3 x4 r2.1 (decide ((20 : Int) < ((List.length r2.1 : Nat) : Int))) x0))))))
theorem e0 (k : Nat) : u0 k = t0 (l1 k) := by kernel_rfl
def p0 (k : Nat) : T0 := t0 (p1 k)
theorem o0 (k : Nat) : u0 k = p0 k := (Eq.trans (b := t0 (l1 k)) (e0 k) (Eq.trans (b := t0 (p1 k)) (congrArg t0 (o1 k)) (by kernel_rfl)))
end Q84
def s_Q84 (a : D0 × (Int × (Int × ((List UInt8) × ((List Int) × ((List N0) × Unit)))))) : Option (Bool × Unit) := Q84.p0 fuel a.1 a.2.1 a.2.2.1 a.2.2.2.1 a.2.2.2.2.1 a.2.2.2.2.2.1
def F_Q84 : FSpec cx.toNm := { ps := [.val ty0, .val (.int .i64), .val (.int .i64), .val .str, .val (.slice 5 (.int .u8)), .val (.slice 51 (.named 0))], nres := 1, rt := .bool, rm := .ro, f := s_Q84 }
theorem w_Q84 (a : D0 × (Int × (Int × ((List UInt8) × ((List Int) × ((List N0) × Unit)))))) : runOf (S := cx) Q84.E Q84.h fuel Try.f3 F_Q84.ps F_Q84.rt F_Q84.rm a = F_Q84.f a := Eq.trans (b := Q84.u0 fuel a.1 a.2.1 a.2.2.1 a.2.2.2.1 a.2.2.2.2.1 a.2.2.2.2.2.1) (by kernel_rfl) (Eq.trans (b := Q84.p0 fuel a.1 a.2.1 a.2.2.1 a.2.2.2.1 a.2.2.2.2.1 a.2.2.2.2.2.1) (congrFun (congrFun (congrFun (congrFun (congrFun (congrFun (Q84.o0 fuel) a.1) a.2.1) a.2.2.1) a.2.2.2.1) a.2.2.2.2.1) a.2.2.2.2.2.1) (by kernel_rfl))
theorem ok_Q84 : FnOk Try.prog F_Q84 3 := fn_of (hn := Q84.h) (E := Q84.E) cxOk (tysT _ _) (fs_cons ok_Q79 (fs_cons ok_Q82 (fs_cons ok_Q49 (fs_cons ok_Q68 (fs_cons ok_Q69 (fs_cons ok_Q8 (fs_cons ok_Q83 (fs_cons ok_Q81 (fs_cons ok_Q74 (fs_cons ok_Q66 (fs_cons ok_Q65 fs_nil))))))))))) follows Try.func3 (by kernel_rfl) (fun a r h => ⟨fuel, Eq.trans (w_Q84 a) h⟩)
end
end Go.Proofs.Ytdnkjfmneppkoaa.Vm.Tr
