/- What the functions of syntaxes compute, as plain functions; that they do. -/
import Derived.Test.YtdnkjfmneppkoaaLib
import Derived.KernelRfl
namespace Go.Proofs.Ytdnkjfmneppkoaa.Vm.Tr
open Go Go.Proofs.Ytdnkjfmneppkoaa.Vm Go.Proofs
set_option linter.unusedVariables false
set_option maxRecDepth 100000
noncomputable section
abbrev Y_Q50 := ((Option N1) × ((Option N1) × Unit)) → Option (Bool × Unit)
abbrev Y_Q51 := ((List (Option N1)) × ((List (Option N1)) × (Unit × Unit))) → Option (Bool × Unit)
abbrev Y_Q52 := (D2 × Unit) → Option ((Option N1) × Unit)
abbrev Y_Q60 := ((Option N1) × ((D0 × Unit) × Unit)) → Option (Bool × Unit)
abbrev Y_Q61 := ((List (Option N1)) × (((D0 × Unit) × Unit) × Unit)) → Option (Bool × Unit)
abbrev Y_Q62 := ((List (Option N1)) × (((D0 × Unit) × Unit) × Unit)) → Option (Int × Unit)
abbrev Y_Q63 := ((Option N1) × ((D0 × Unit) × Unit)) → Option (Bool × Unit)
abbrev Y_Q65 := ((Option N1) × ((Option N1) × Unit)) → Option (Bool × Unit)
abbrev Y_Q66 := (D0 × ((Option N1) × Unit)) → Option (Bool × Unit)
abbrev Y_Q67 := ((Option N1) × (Int × Unit)) → Option (Int × Unit)
abbrev Y_Q78 := (D0 × ((Option N1) × Unit)) → Option ((List UInt8) × Unit)
abbrev Y_Q81 := (D0 × (Int × ((List Int) × (Int × Unit)))) → Option ((Option N1) × ((List Int) × Unit))
namespace Q0
def E : Env cx := { tys := tys, fs := fsOf [] }
abbrev R := Option (Bool × Unit)
abbrev C := Exit → ST cx → R
noncomputable def b : Code := bodyC Try.f53
def h : Hint := { vs := [0, 1, 4, 5], nil := [], cuts := [(4, ([0, 1, 5], []), ([], [])), (8, ([], []), ([], []))], ret := ([4], []), ords := [] }
def K0 : C := fin (S := cx) E Try.f53.results.toList .bool .ro [] []
def c0 : Code := subC b [1]
def K1 (k : Nat) : C := outD h c0 K0
def c1 : Code := subC b [1, 1]
def K3 (k : Nat) : C := outD h c1 (K1 k)
def c4 : Code := subC b [1, 1, 1]
def K9 (k : Nat) : C := outD h c4 (K3 k)
def K10 (k : Nat) : C := seqC E h k c4 (K3 k)
def c5 : Code := subC b [1, 1, 0, 1]
def K11 (k : Nat) : C := outD h c5 (K10 k)
def K13 (k : Nat) : C := blockK 0 (K11 k)
def c6 : Code := subC b [1, 1, 0, 1, 0, 0]
abbrev T2 := R
abbrev T1 := (List Int) → (List Int) → Int → R
abbrev T0 := (List Int) → (List Int) → R
abbrev s2 : ST cx := (⟨[], [], []⟩ : ST cx)
def u2 (k : Nat) : T2 := uK (run E h k c4) s2 (K9 k)
abbrev l2 (k : Nat) : T2 := cutK (run E h k c4) s2 (K9 k)
abbrev s1 := fun x0 x1 x5 => (⟨[(0, .v (.slice 3 (.int .i64)) .ro x0), (1, .v (.slice 3 (.int .i64)) .ro x1), (5, .v (.int .i64) .ro x5)], [], []⟩ : ST cx)
def u1 (k n1 : Nat) : T1 := fun x0 x1 x5 => uK (loopL E h k c6 (K13 k) n1) (s1 x0 x1 x5) ()
abbrev l1 (k n1 : Nat) : T1 := fun x0 x1 x5 => cutK (loopL E h k c6 (K13 k) n1) (s1 x0 x1 x5) ()
def u0 (k : Nat) : T0 := fun x0 x1 => runOf (S := cx) E h k Try.f53 [.val (.slice 3 (.int .i64)), .val (.slice 3 (.int .i64))] .bool .ro (x0, x1, ())
def t2 : T2 := 
  (some (true, ()))
theorem e2 (k : Nat) : u2 k = t2 := by kernel_rfl
theorem g2 (k : Nat) : l2 k = u2 k := cut_u _ _ _
def p2 (k : Nat) : T2 := t2
theorem o2 (k : Nat) : l2 k = p2 k := (Eq.trans (b := u2 k) (g2 k) (Eq.trans (b := t2) (e2 k) (by kernel_rfl)))
def t1 (f1 : T1) (f2 : T2) : T1 := fun x0 x1 x5 => (iteB (decide (x5 < ((List.length x0 : Nat) : Int))) (wnR x5 (List.length x0) fun q1 => (wnR x5 (List.length x1) fun q2 => (iteB (!decide ((List.getD x0 q1 (0 : Int)) = (List.getD x1 q2 (0 : Int)))) (some (false, ())) (f1 x0 x1 (w64 (x5 + (1 : Int))))))) f2)
theorem e1 (k n1 : Nat) : u1 k (n1 + 1) = t1 (l1 k n1) (l2 k) := by kernel_rfl
theorem g1 (k n1 : Nat) : l1 k (n1 + 1) = u1 k (n1 + 1) := funext fun _ => funext fun _ => funext fun _ => cut_u _ _ _
def p1 (k : Nat) : Nat → T1
  | 0 => fun _ _ _ => none
  | n1 + 1 => t1 (p1 k n1) (p2 k)
theorem o1 (k : Nat) : ∀ n1, l1 k n1 = p1 k n1 := by
  intro n1
  induction n1 with
  | zero => kernel_rfl
  | succ n1 ih => exact (Eq.trans (b := u1 k (n1 + 1)) (g1 k n1) (Eq.trans (b := t1 (l1 k n1) (l2 k)) (e1 k n1) (Eq.trans (b := t1 (p1 k n1) (p2 k)) (congr (congrArg t1 ih) (o2 k)) (by kernel_rfl))))
def t0 (f1 : T1) : T0 := fun x0 x1 => (iteB (!decide (((List.length x0 : Nat) : Int) = ((List.length x1 : Nat) : Int))) (some (false, ())) (f1 x0 x1 (0 : Int)))
theorem e0 (k : Nat) : u0 k = t0 (l1 k k) := by kernel_rfl
def p0 (k : Nat) : T0 := t0 (p1 k k)
theorem o0 (k : Nat) : u0 k = p0 k := (Eq.trans (b := t0 (l1 k k)) (e0 k) (Eq.trans (b := t0 (p1 k k)) (congrArg t0 (o1 k k)) (by kernel_rfl)))
end Q0
def s_Q0 (a : (List Int) × ((List Int) × Unit)) : Option (Bool × Unit) := Q0.p0 fuel a.1 a.2.1
def F_Q0 : FSpec cx.toNm := { ps := [.val (.slice 3 (.int .i64)), .val (.slice 3 (.int .i64))], nres := 1, rt := .bool, rm := .ro, f := s_Q0 }
theorem w_Q0 (a : (List Int) × ((List Int) × Unit)) : runOf (S := cx) Q0.E Q0.h fuel Try.f53 F_Q0.ps F_Q0.rt F_Q0.rm a = F_Q0.f a := Eq.trans (b := Q0.u0 fuel a.1 a.2.1) (by kernel_rfl) (Eq.trans (b := Q0.p0 fuel a.1 a.2.1) (congrFun (congrFun (Q0.o0 fuel) a.1) a.2.1) (by kernel_rfl))
theorem ok_Q0 : FnOk Try.prog F_Q0 53 := fn_of (hn := Q0.h) (E := Q0.E) cxOk (tysT _ _) fs_nil follows Try.func53 (by kernel_rfl) (fun a r h => ⟨fuel, Eq.trans (w_Q0 a) h⟩)
namespace Q1
def E : Env cx := { tys := tys, fs := fsOf [] }
abbrev R := Option ((Int × Int) × Unit)
abbrev C := Exit → ST cx → R
noncomputable def b : Code := bodyC Try.f73
def h : Hint := { vs := [0, 1, 2, 3, 6, 7, 8, 9, 10, 11, 12], nil := [], cuts := [(3, ([1, 2, 3, 8, 9, 10], [3]), ([8, 9], [])), (4, ([1, 2, 3, 8, 9, 10], [3]), ([1, 2, 3, 8, 9, 10], [3])), (9, ([1, 2, 3, 8, 9, 10, 11, 12], [3]), ([1, 2, 3, 8, 9, 10, 11], [3])), (11, ([1, 2, 3, 8, 9, 10, 12], [3]), ([1, 2, 3, 8, 9, 10, 11, 12], [3])), (12, ([1, 2, 3, 8, 9, 10, 11], [3]), ([1, 2, 3, 8, 9, 10], [3])), (13, ([1, 2, 3, 8, 9, 10, 67], [3]), ([1, 2, 3, 8, 9, 10], [3])), (14, ([8, 9], []), ([8, 9], [])), (1000002, ([1, 2, 3, 8, 9, 10, 11, 12, 46], [3]), ([1, 2, 3, 8, 9, 10, 12], [3]))], ret := ([6, 7], [3]), ords := [] }
def K0 : C := fin (S := cx) E Try.f73.results.toList (.pair (.int .i64) (.int .i64)) .ro [] []
def c0 : Code := subC b [1]
def K1 (k : Nat) : C := outD h c0 K0
def c1 : Code := subC b [1, 1]
def K3 (k : Nat) : C := outD h c1 (K1 k)
def c2 : Code := subC b [1, 1, 1]
def K5 (k : Nat) : C := outD h c2 (K3 k)
def K6 (k : Nat) : C := seqC E h k c2 (K3 k)
def c3 : Code := subC b [1, 1, 0, 1]
def K7 (k : Nat) : C := outD h c3 (K6 k)
def K9 (k : Nat) : C := blockK 0 (K7 k)
def c4 : Code := subC b [1, 1, 0, 1, 0, 0]
def K10 (k n1 : Nat) : C := loopD E h k c4 (K9 k) n1
def c5 : Code := subC b [1, 1, 0, 1, 0, 0, 1]
def K11 (k n1 : Nat) : C := outD h c5 (K10 k n1)
def c7 : Code := subC b [1, 1, 0, 1, 0, 0, 1, 1]
def K15 (k n1 : Nat) : C := outD h c7 (K11 k n1)
def K16 (k n1 : Nat) : C := seqC E h k c7 (K11 k n1)
def K17 (k n1 : Nat) : C := blockK 1 (K16 k n1)
def c8 : Code := subC b [1, 1, 0, 1, 0, 0, 1, 0, 0, 1]
def K18 (k n1 : Nat) : C := outD h c8 (K17 k n1)
def c10 : Code := subC b [1, 1, 0, 1, 0, 0, 1, 0, 0, 1, 1]
def K22 (k n1 : Nat) : C := outD h c10 (K18 k n1)
def c11 : Code := subC b [1, 1, 0, 1, 0, 0, 1, 0, 0, 1, 1, 1]
def K24 (k n1 : Nat) : C := outD h c11 (K22 k n1)
def c12 : Code := subC b [1, 1, 0, 1, 0, 0, 1, 0, 0, 1, 1, 1, 1]
def K26 (k n1 : Nat) : C := outD h c12 (K24 k n1)
def K27 (k n1 : Nat) : C := seqC E h k c12 (K24 k n1)
def c13 : Code := subC b [1, 1, 0, 1, 0, 0, 1, 0, 0, 1, 1, 1, 0, 1]
def K28 (k n1 : Nat) : C := outD h c13 (K27 k n1)
def K30 (k n1 : Nat) : C := blockK 2 (K28 k n1)
def c14 : Code := subC b [1, 1, 0, 1, 0, 0, 1, 0, 0, 1, 1, 1, 0, 1, 0, 0]
def K31 (k n1 n3 : Nat) : C := loopD E h k c14 (K30 k n1) n3
def c15 : Code := subC b [1, 1, 0, 1, 0, 0, 1, 0, 0, 1, 1, 1, 0, 1, 0, 0, 1]
def K32 (k n1 n3 : Nat) : C := outD h c15 (K31 k n1 n3)
def K33 (k n1 n3 : Nat) : C := seqC E h k c15 (K31 k n1 n3)
def c16 : Code := subC b [1, 1, 0, 1, 0, 0, 1, 0, 0, 1, 1, 1, 0, 1, 0, 0, 0, 1]
def K34 (k n1 n3 : Nat) : C := outD h c16 (K33 k n1 n3)
def c18 : Code := subC b [1, 1, 0, 1, 0, 0, 1, 0, 0, 1, 1, 1, 1, 1]
def K39 (k n1 : Nat) : C := outD h c18 (K26 k n1)
abbrev T2 := Int → (List Int) → Int → Int → Int → D0 → R
abbrev T6 := Int → (List Int) → Int → Int → Int → Int → D0 → R
abbrev T8 := Int → (List Int) → Int → Int → Int → Bool → D0 → R
abbrev T7 := Int → (List Int) → Int → Int → Int → Bool → D0 → R
abbrev T5 := Int → (List Int) → Int → Int → Int → Bool → Int → Bool → D0 → R
abbrev T3 := Int → (List Int) → Int → Int → Int → Bool → Int → D0 → R
abbrev T4 := Int → Int → R
abbrev T1 := Int → (List Int) → Int → Int → Int → D0 → R
abbrev T0 := D0 → Int → (List Int) → R
abbrev s2 := fun x1 x2 x8 x9 x10 m3 => (⟨[(1, .v (.int .i64) .ro x1), (2, .v (.slice 3 (.int .i64)) .ro x2), (3, .addr (.mem 3) []), (8, .v (.int .i64) .ro x8), (9, .v (.int .i64) .ro x9), (10, .v (.int .i64) .ro x10)], [], [(3, ⟨ty0, .ro, m3⟩)]⟩ : ST cx)
def u2 (k n1 : Nat) : T2 := fun x1 x2 x8 x9 x10 m3 => uK (run E h k c7) (s2 x1 x2 x8 x9 x10 m3) (K15 k n1)
abbrev l2 (k n1 : Nat) : T2 := fun x1 x2 x8 x9 x10 m3 => cutK (run E h k c7) (s2 x1 x2 x8 x9 x10 m3) (K15 k n1)
abbrev s6 := fun x1 x2 x8 x9 x10 x12 m3 => (⟨[(1, .v (.int .i64) .ro x1), (2, .v (.slice 3 (.int .i64)) .ro x2), (3, .addr (.mem 3) []), (8, .v (.int .i64) .ro x8), (9, .v (.int .i64) .ro x9), (10, .v (.int .i64) .ro x10), (12, .v (.int .i64) .ro x12)], [], [(3, ⟨ty0, .ro, m3⟩)]⟩ : ST cx)
def u6 (k n1 n3 : Nat) : T6 := fun x1 x2 x8 x9 x10 x12 m3 => uK (run E h k c15) (s6 x1 x2 x8 x9 x10 x12 m3) (K32 k n1 n3)
abbrev l6 (k n1 n3 : Nat) : T6 := fun x1 x2 x8 x9 x10 x12 m3 => cutK (run E h k c15) (s6 x1 x2 x8 x9 x10 x12 m3) (K32 k n1 n3)
abbrev s8 := fun x1 x2 x8 x9 x10 x67 m3 => (⟨[(1, .v (.int .i64) .ro x1), (2, .v (.slice 3 (.int .i64)) .ro x2), (3, .addr (.mem 3) []), (8, .v (.int .i64) .ro x8), (9, .v (.int .i64) .ro x9), (10, .v (.int .i64) .ro x10), (67, .v .bool .ro x67)], [], [(3, ⟨ty0, .ro, m3⟩)]⟩ : ST cx)
def u8 (k n1 : Nat) : T8 := fun x1 x2 x8 x9 x10 x67 m3 => uK (run E h k c18) (s8 x1 x2 x8 x9 x10 x67 m3) (K39 k n1)
abbrev l8 (k n1 : Nat) : T8 := fun x1 x2 x8 x9 x10 x67 m3 => cutK (run E h k c18) (s8 x1 x2 x8 x9 x10 x67 m3) (K39 k n1)
abbrev s7 := fun x1 x2 x8 x9 x10 x11 m3 => (⟨[(1, .v (.int .i64) .ro x1), (2, .v (.slice 3 (.int .i64)) .ro x2), (3, .addr (.mem 3) []), (8, .v (.int .i64) .ro x8), (9, .v (.int .i64) .ro x9), (10, .v (.int .i64) .ro x10), (11, .v .bool .ro x11)], [], [(3, ⟨ty0, .ro, m3⟩)]⟩ : ST cx)
def u7 (k n1 : Nat) : T7 := fun x1 x2 x8 x9 x10 x11 m3 => uK (run E h k c12) (s7 x1 x2 x8 x9 x10 x11 m3) (K26 k n1)
abbrev l7 (k n1 : Nat) : T7 := fun x1 x2 x8 x9 x10 x11 m3 => cutK (run E h k c12) (s7 x1 x2 x8 x9 x10 x11 m3) (K26 k n1)
abbrev s5 := fun x1 x2 x8 x9 x10 x11 x12 x46 m3 => (⟨[(1, .v (.int .i64) .ro x1), (2, .v (.slice 3 (.int .i64)) .ro x2), (3, .addr (.mem 3) []), (8, .v (.int .i64) .ro x8), (9, .v (.int .i64) .ro x9), (10, .v (.int .i64) .ro x10), (11, .v .bool .ro x11), (12, .v (.int .i64) .ro x12), (46, .v .bool .ro x46)], [], [(3, ⟨ty0, .ro, m3⟩)]⟩ : ST cx)
def u5 (k n1 n3 : Nat) : T5 := fun x1 x2 x8 x9 x10 x11 x12 x46 m3 => uK (run E h k c16) (s5 x1 x2 x8 x9 x10 x11 x12 x46 m3) (K34 k n1 n3)
abbrev l5 (k n1 n3 : Nat) : T5 := fun x1 x2 x8 x9 x10 x11 x12 x46 m3 => cutK (run E h k c16) (s5 x1 x2 x8 x9 x10 x11 x12 x46 m3) (K34 k n1 n3)
abbrev s3 := fun x1 x2 x8 x9 x10 x11 x12 m3 => (⟨[(1, .v (.int .i64) .ro x1), (2, .v (.slice 3 (.int .i64)) .ro x2), (3, .addr (.mem 3) []), (8, .v (.int .i64) .ro x8), (9, .v (.int .i64) .ro x9), (10, .v (.int .i64) .ro x10), (11, .v .bool .ro x11), (12, .v (.int .i64) .ro x12)], [], [(3, ⟨ty0, .ro, m3⟩)]⟩ : ST cx)
def u3 (k n1 n3 : Nat) : T3 := fun x1 x2 x8 x9 x10 x11 x12 m3 => uK (loopL E h k c14 (K30 k n1) n3) (s3 x1 x2 x8 x9 x10 x11 x12 m3) ()
abbrev l3 (k n1 n3 : Nat) : T3 := fun x1 x2 x8 x9 x10 x11 x12 m3 => cutK (loopL E h k c14 (K30 k n1) n3) (s3 x1 x2 x8 x9 x10 x11 x12 m3) ()
abbrev s4 := fun x8 x9 => (⟨[(8, .v (.int .i64) .ro x8), (9, .v (.int .i64) .ro x9)], [], []⟩ : ST cx)
def u4 (k : Nat) : T4 := fun x8 x9 => uK (run E h k c2) (s4 x8 x9) (K5 k)
abbrev l4 (k : Nat) : T4 := fun x8 x9 => cutK (run E h k c2) (s4 x8 x9) (K5 k)
abbrev s1 := fun x1 x2 x8 x9 x10 m3 => (⟨[(1, .v (.int .i64) .ro x1), (2, .v (.slice 3 (.int .i64)) .ro x2), (3, .addr (.mem 3) []), (8, .v (.int .i64) .ro x8), (9, .v (.int .i64) .ro x9), (10, .v (.int .i64) .ro x10)], [], [(3, ⟨ty0, .ro, m3⟩)]⟩ : ST cx)
def u1 (k n1 : Nat) : T1 := fun x1 x2 x8 x9 x10 m3 => uK (loopL E h k c4 (K9 k) n1) (s1 x1 x2 x8 x9 x10 m3) ()
abbrev l1 (k n1 : Nat) : T1 := fun x1 x2 x8 x9 x10 m3 => cutK (loopL E h k c4 (K9 k) n1) (s1 x1 x2 x8 x9 x10 m3) ()
def u0 (k : Nat) : T0 := fun x0 x1 x2 => runOf (S := cx) E h k Try.f73 [.val ty0, .val (.int .i64), .val (.slice 3 (.int .i64))] (.pair (.int .i64) (.int .i64)) .ro (x0, x1, x2, ())
def t2 (f1 : T1) : T2 := fun x1 x2 x8 x9 x10 m3 => (f1 x1 x2 x8 x9 (w64 (x10 + (1 : Int))) m3)
theorem e2 (k n1 : Nat) : u2 k n1 = t2 (l1 k n1) := by kernel_rfl
theorem g2 (k n1 : Nat) : l2 k n1 = u2 k n1 := funext fun _ => funext fun _ => funext fun _ => funext fun _ => funext fun _ => funext fun _ => cut_u _ _ _
def p2 (k : Nat) (a1 : T1) : T2 := t2 a1
theorem o2 (k n1 : Nat) (a1 : T1) (h1 : l1 k n1 = a1) : l2 k n1 = p2 k a1 := (Eq.trans (b := u2 k n1) (g2 k n1) (Eq.trans (b := t2 (l1 k n1)) (e2 k n1) (Eq.trans (b := t2 a1) (congrArg t2 h1) (by kernel_rfl))))
def t6 (f3 : T3) : T6 := fun x1 x2 x8 x9 x10 x12 m3 => (wnR x10 (List.length m3.2.2.2.1) fun q3 => (wnR x12 (List.length (List.getD m3.2.2.2.1 q3 ((0 : Int), ([] : List Int))).2) fun q4 => (wnR x12 (List.length x2) fun q5 => (f3 x1 x2 x8 x9 x10 (decide ((List.getD (List.getD m3.2.2.2.1 q3 ((0 : Int), ([] : List Int))).2 q4 (0 : Int)) = (List.getD x2 q5 (0 : Int)))) (w64 (x12 + (1 : Int))) m3))))
theorem e6 (k n1 n3 : Nat) : u6 k n1 n3 = t6 (l3 k n1 n3) := by kernel_rfl
theorem g6 (k n1 n3 : Nat) : l6 k n1 n3 = u6 k n1 n3 := funext fun _ => funext fun _ => funext fun _ => funext fun _ => funext fun _ => funext fun _ => funext fun _ => cut_u _ _ _
def p6 (k : Nat) (a1 : T1) (a3 : T3) : T6 := t6 a3
theorem o6 (k n1 n3 : Nat) (a1 : T1) (a3 : T3) (h1 : l1 k n1 = a1) (h3 : l3 k n1 n3 = a3) : l6 k n1 n3 = p6 k a1 a3 := (Eq.trans (b := u6 k n1 n3) (g6 k n1 n3) (Eq.trans (b := t6 (l3 k n1 n3)) (e6 k n1 n3) (Eq.trans (b := t6 a3) (congrArg t6 h3) (by kernel_rfl))))
def t8 (f2 : T2) : T8 := fun x1 x2 x8 x9 x10 x67 m3 => (iteB x67 (f2 x1 x2 x10 x9 x10 m3) (f2 x1 x2 x8 x9 x10 m3))
theorem e8 (k n1 : Nat) : u8 k n1 = t8 (l2 k n1) := by kernel_rfl
theorem g8 (k n1 : Nat) : l8 k n1 = u8 k n1 := funext fun _ => funext fun _ => funext fun _ => funext fun _ => funext fun _ => funext fun _ => funext fun _ => cut_u _ _ _
def p8 (k : Nat) (a1 : T1) : T8 := t8 (p2 k a1)
theorem o8 (k n1 : Nat) (a1 : T1) (h1 : l1 k n1 = a1) : l8 k n1 = p8 k a1 := (Eq.trans (b := u8 k n1) (g8 k n1) (Eq.trans (b := t8 (l2 k n1)) (e8 k n1) (Eq.trans (b := t8 (p2 k a1)) (congrArg t8 (o2 k n1 a1 h1)) (by kernel_rfl))))
def t7 (f8 : T8) : T7 := fun x1 x2 x8 x9 x10 x11 m3 => (iteB x11 (f8 x1 x2 x8 x9 x10 (decide (x8 < (0 : Int))) m3) (f8 x1 x2 x8 x9 x10 false m3))
theorem e7 (k n1 : Nat) : u7 k n1 = t7 (l8 k n1) := by kernel_rfl
theorem g7 (k n1 : Nat) : l7 k n1 = u7 k n1 := funext fun _ => funext fun _ => funext fun _ => funext fun _ => funext fun _ => funext fun _ => funext fun _ => cut_u _ _ _
def p7 (k : Nat) (a1 : T1) : T7 := t7 (p8 k a1)
theorem o7 (k n1 : Nat) (a1 : T1) (h1 : l1 k n1 = a1) : l7 k n1 = p7 k a1 := (Eq.trans (b := u7 k n1) (g7 k n1) (Eq.trans (b := t7 (l8 k n1)) (e7 k n1) (Eq.trans (b := t7 (p8 k a1)) (congrArg t7 (o8 k n1 a1 h1)) (by kernel_rfl))))
def t5 (f6 : T6) (f7 : T7) : T5 := fun x1 x2 x8 x9 x10 x11 x12 x46 m3 => (iteB x46 (f6 x1 x2 x8 x9 x10 x12 m3) (f7 x1 x2 x8 x9 x10 x11 m3))
theorem e5 (k n1 n3 : Nat) : u5 k n1 n3 = t5 (l6 k n1 n3) (l7 k n1) := by kernel_rfl
theorem g5 (k n1 n3 : Nat) : l5 k n1 n3 = u5 k n1 n3 := funext fun _ => funext fun _ => funext fun _ => funext fun _ => funext fun _ => funext fun _ => funext fun _ => funext fun _ => funext fun _ => cut_u _ _ _
def p5 (k : Nat) (a1 : T1) (a3 : T3) : T5 := t5 (p6 k a1 a3) (p7 k a1)
theorem o5 (k n1 n3 : Nat) (a1 : T1) (a3 : T3) (h1 : l1 k n1 = a1) (h3 : l3 k n1 n3 = a3) : l5 k n1 n3 = p5 k a1 a3 := (Eq.trans (b := u5 k n1 n3) (g5 k n1 n3) (Eq.trans (b := t5 (l6 k n1 n3) (l7 k n1)) (e5 k n1 n3) (Eq.trans (b := t5 (p6 k a1 a3) (p7 k a1)) (congr (congrArg t5 (o6 k n1 n3 a1 a3 h1 h3)) (o7 k n1 a1 h1)) (by kernel_rfl))))
def t3 (f5 : T5) : T3 := fun x1 x2 x8 x9 x10 x11 x12 m3 => (iteB (decide (x12 < ((List.length x2 : Nat) : Int))) (f5 x1 x2 x8 x9 x10 x11 x12 x11 m3) (f5 x1 x2 x8 x9 x10 x11 x12 false m3))
theorem e3 (k n1 n3 : Nat) : u3 k n1 (n3 + 1) = t3 (l5 k n1 n3) := by kernel_rfl
theorem g3 (k n1 n3 : Nat) : l3 k n1 (n3 + 1) = u3 k n1 (n3 + 1) := funext fun _ => funext fun _ => funext fun _ => funext fun _ => funext fun _ => funext fun _ => funext fun _ => funext fun _ => cut_u _ _ _
def p3 (k : Nat) (a1 : T1) : Nat → T3
  | 0 => fun _ _ _ _ _ _ _ _ => none
  | n3 + 1 => t3 (p5 k a1 (p3 k a1 n3))
theorem o3 (k n1 : Nat) (a1 : T1) (h1 : l1 k n1 = a1) : ∀ n3, l3 k n1 n3 = p3 k a1 n3 := by
  intro n3
  induction n3 with
  | zero => kernel_rfl
  | succ n3 ih => exact (Eq.trans (b := u3 k n1 (n3 + 1)) (g3 k n1 n3) (Eq.trans (b := t3 (l5 k n1 n3)) (e3 k n1 n3) (Eq.trans (b := t3 (p5 k a1 (p3 k a1 n3))) (congrArg t3 (o5 k n1 n3 a1 (p3 k a1 n3) h1 ih)) (by kernel_rfl))))
def t4 : T4 := fun x8 x9 => (some ((x8, x9), ()))
theorem e4 (k : Nat) : u4 k = t4 := by kernel_rfl
theorem g4 (k : Nat) : l4 k = u4 k := funext fun _ => funext fun _ => cut_u _ _ _
def p4 (k : Nat) : T4 := t4
theorem o4 (k : Nat) : l4 k = p4 k := (Eq.trans (b := u4 k) (g4 k) (Eq.trans (b := t4) (e4 k) (by kernel_rfl)))
def t1 (f2 : T2) (f3 : T3) (f4 : T4) : T1 := fun x1 x2 x8 x9 x10 m3 => (iteB (decide (x10 < ((List.length m3.2.2.2.1 : Nat) : Int))) (wnR x10 (List.length m3.2.2.2.1) fun q1 => (iteB (!decide ((List.getD m3.2.2.2.1 q1 ((0 : Int), ([] : List Int))).1 = x1)) (f2 x1 x2 x8 x9 x10 m3) (wnR x10 (List.length m3.2.2.2.1) fun q2 => (f3 x1 x2 x8 (w64 (x9 + (1 : Int))) x10 (decide (((List.length (List.getD m3.2.2.2.1 q2 ((0 : Int), ([] : List Int))).2 : Nat) : Int) = ((List.length x2 : Nat) : Int))) (0 : Int) m3)))) (f4 x8 x9))
theorem e1 (k n1 : Nat) : u1 k (n1 + 1) = t1 (l2 k n1) (l3 k n1 k) (l4 k) := by kernel_rfl
theorem g1 (k n1 : Nat) : l1 k (n1 + 1) = u1 k (n1 + 1) := funext fun _ => funext fun _ => funext fun _ => funext fun _ => funext fun _ => funext fun _ => cut_u _ _ _
def p1 (k : Nat) : Nat → T1
  | 0 => fun _ _ _ _ _ _ => none
  | n1 + 1 => t1 (p2 k (p1 k n1)) (p3 k (p1 k n1) k) (p4 k)
theorem o1 (k : Nat) : ∀ n1, l1 k n1 = p1 k n1 := by
  intro n1
  induction n1 with
  | zero => kernel_rfl
  | succ n1 ih => exact (Eq.trans (b := u1 k (n1 + 1)) (g1 k n1) (Eq.trans (b := t1 (l2 k n1) (l3 k n1 k) (l4 k)) (e1 k n1) (Eq.trans (b := t1 (p2 k (p1 k n1)) (p3 k (p1 k n1) k) (p4 k)) (congr (congr (congrArg t1 (o2 k n1 (p1 k n1) ih)) (o3 k n1 (p1 k n1) ih k)) (o4 k)) (by kernel_rfl))))
def t0 (f1 : T1) : T0 := fun x0 x1 x2 => (f1 x1 x2 (-1 : Int) (0 : Int) (0 : Int) x0)
theorem e0 (k : Nat) : u0 k = t0 (l1 k k) := by kernel_rfl
def p0 (k : Nat) : T0 := t0 (p1 k k)
theorem o0 (k : Nat) : u0 k = p0 k := (Eq.trans (b := t0 (l1 k k)) (e0 k) (Eq.trans (b := t0 (p1 k k)) (congrArg t0 (o1 k k)) (by kernel_rfl)))
end Q1
def s_Q1 (a : D0 × (Int × ((List Int) × Unit))) : Option ((Int × Int) × Unit) := Q1.p0 fuel a.1 a.2.1 a.2.2.1
def F_Q1 : FSpec cx.toNm := { ps := [.val ty0, .val (.int .i64), .val (.slice 3 (.int .i64))], nres := 2, rt := (.pair (.int .i64) (.int .i64)), rm := .ro, f := s_Q1 }
theorem w_Q1 (a : D0 × (Int × ((List Int) × Unit))) : runOf (S := cx) Q1.E Q1.h fuel Try.f73 F_Q1.ps F_Q1.rt F_Q1.rm a = F_Q1.f a := Eq.trans (b := Q1.u0 fuel a.1 a.2.1 a.2.2.1) (by kernel_rfl) (Eq.trans (b := Q1.p0 fuel a.1 a.2.1 a.2.2.1) (congrFun (congrFun (congrFun (Q1.o0 fuel) a.1) a.2.1) a.2.2.1) (by kernel_rfl))
theorem ok_Q1 : FnOk Try.prog F_Q1 73 := fn_of (hn := Q1.h) (E := Q1.E) cxOk (tysT _ _) fs_nil follows Try.func73 (by kernel_rfl) (fun a r h => ⟨fuel, Eq.trans (w_Q1 a) h⟩)
namespace Q2
def E : Env cx := { tys := tys, fs := fsOf [(73, F_Q1)] }
abbrev R := Option (((List Int) × Bool) × Unit)
abbrev C := Exit → ST cx → R
noncomputable def b : Code := bodyC Try.f52
def h : Hint := { vs := [0, 1, 2, 3, 6, 7, 8, 9, 10, 11, 12, 13, 15, 17], nil := [], cuts := [(8, ([2, 3, 8, 9, 10], [3]), ([2, 3, 8, 9, 10], [3]))], ret := ([6, 7], [3]), ords := [(10, [0, 1, 2, 3, 4, 5, 6, 7, 8, 10, 11, 12, 13, 14, 15, 16, 17, 18, 19, 20, 21, 22, 23, 24, 25, 26, 27, 28, 29, 30, 31, 32, 33, 34, 35, 36, 37, 38, 39, 40, 41, 42, 9, 43, 44]), (13, [0, 1, 2, 3, 4, 5, 6, 7, 8, 9, 10, 11, 12, 14, 15, 16, 17, 18, 19, 20, 21, 22, 23, 24, 25, 26, 27, 28, 29, 30, 31, 32, 33, 34, 35, 36, 37, 38, 39, 13, 40, 41]), (15, [0, 1, 2, 3, 4, 5, 6, 8, 9, 10, 11, 12, 13, 14, 15, 16, 17, 7, 18, 19])], trees := [(3, (.step 1 (.step 2 (.step 3 (.step 4 (.step 5 (.step 6 (.both (.step 0 (.step 8 (.step 7 (.step 9 .done)))) (.step 7 (.step 0 (.step 8 (.step 9 .done))))))))))))] }
def K0 : C := fin (S := cx) E Try.f52.results.toList (.pair (.slice 3 (.int .i64)) .bool) .ro [] []
def c0 : Code := subC b [1]
def K1 (k : Nat) : C := outD h c0 K0
def c1 : Code := subC b [1, 1]
def K4 (k : Nat) : C := seqC E h k c1 (K1 k)
def c2 : Code := subC b [1, 0, 1]
def K5 (k : Nat) : C := outD h c2 (K4 k)
def c3 : Code := subC b [1, 0, 1, 0, 1]
def K7 (k : Nat) : C := outD h c3 (K5 k)
def c4 : Code := subC b [1, 0, 1, 0, 1, 1]
def K9 (k : Nat) : C := outD h c4 (K7 k)
def c5 : Code := subC b [1, 0, 1, 0, 1, 1, 1]
def K11 (k : Nat) : C := outD h c5 (K9 k)
abbrev T1 := (List Int) → Int → (List Int) → (List Int) → D0 → R
abbrev T0 := D0 → Int → (List Int) → R
abbrev s1 := fun x2 x8 x9 x10 m3 => (⟨[(2, .v (.slice 3 (.int .i64)) .ro x2), (3, .addr (.mem 3) []), (8, .v (.int .i64) .ro x8), (9, .v (.slice 3 (.int .i64)) .ro x9), (10, .v (.slice 3 (.int .i64)) .ro x10)], [], [(3, ⟨ty0, .ro, m3⟩)]⟩ : ST cx)
def u1 (k : Nat) : T1 := fun x2 x8 x9 x10 m3 => uK (run E h k c5) (s1 x2 x8 x9 x10 m3) (K11 k)
abbrev l1 (k : Nat) : T1 := fun x2 x8 x9 x10 m3 => cutK (run E h k c5) (s1 x2 x8 x9 x10 m3) (K11 k)
def u0 (k : Nat) : T0 := fun x0 x1 x2 => runOf (S := cx) E h k Try.f52 [.val ty0, .val (.int .u8), .val (.slice 3 (.int .i64))] (.pair (.slice 3 (.int .i64)) .bool) .ro (x0, x1, x2, ())
def t1 : T1 := fun x2 x8 x9 x10 m3 => (wnR (0 : Int) (List.length x2) fun q31 => (bindR (s_Q1 (m3, ((List.getD x2 q31 (0 : Int)), (x9, ())))) fun r32 => (wnR (0 : Int) (List.length x2) fun q33 => (bindR (s_Q1 (m3, ((List.getD x2 q33 (0 : Int)), (x10, ())))) fun r34 => (wnR (0 : Int) (List.length x2) fun q35 => (wnR (1 : Int) (List.length x2) fun q36 => (iteB (decide ((0 : Int) ≤ r32.1.1)) (iteB (decide ((0 : Int) ≤ r34.1.1)) (iteB (decide (r32.1.2 = (2 : Int))) (wnR (0 : Int) (List.length x2) fun q37 => (iteB (decide (m3.2.1 < (List.getD x2 q37 (0 : Int)))) (wnR (0 : Int) (List.length x2) fun q38 => (wnR (1 : Int) (List.length x2) fun q39 => (iteB (!decide ((List.getD x2 q38 (0 : Int)) = (List.getD x2 q39 (0 : Int)))) (some ((([(List.getD x2 q35 (0 : Int)), (List.getD x2 q36 (0 : Int)), x8, r32.1.1, r34.1.1] : List Int), (decide (x8 < m3.2.1))), ())) (some ((([(List.getD x2 q35 (0 : Int)), (List.getD x2 q36 (0 : Int)), x8, r32.1.1, r34.1.1] : List Int), false), ()))))) (some ((([(List.getD x2 q35 (0 : Int)), (List.getD x2 q36 (0 : Int)), x8, r32.1.1, r34.1.1] : List Int), false), ())))) (some ((([(List.getD x2 q35 (0 : Int)), (List.getD x2 q36 (0 : Int)), x8, r32.1.1, r34.1.1] : List Int), false), ()))) (some ((([(List.getD x2 q35 (0 : Int)), (List.getD x2 q36 (0 : Int)), x8, r32.1.1, r34.1.1] : List Int), false), ()))) (some ((([(List.getD x2 q35 (0 : Int)), (List.getD x2 q36 (0 : Int)), x8, r32.1.1, r34.1.1] : List Int), false), ())))))))))
theorem e1 (k : Nat) : u1 k = t1 := by kernel_rfl
theorem g1 (k : Nat) : l1 k = u1 k := funext fun _ => funext fun _ => funext fun _ => funext fun _ => funext fun _ => cut_u _ _ _
def p1 (k : Nat) : T1 := t1
theorem o1 (k : Nat) : l1 k = p1 k := (Eq.trans (b := u1 k) (g1 k) (Eq.trans (b := t1) (e1 k) (by kernel_rfl)))
def t0 (f1 : T1) : T0 := fun x0 x1 x2 => (iteB (decide (x1 = (1 : Int))) (wnR (0 : Int) (List.length x2) fun q1 => (wnR (1 : Int) (List.length x2) fun q2 => (meetK (iteB (decide (((List.length x2 : Nat) : Int) = (3 : Int))) (wnR (2 : Int) (List.length x2) fun q3 => (wnR (1 : Int) (List.length x2) fun q4 => (wnR (0 : Int) (List.length x2) fun q5 => (wnR (2 : Int) (List.length x2) fun q6 => (wnR (1 : Int) (List.length x2) fun q7 => (f1 x2 (List.getD x2 q3 (0 : Int)) ([(List.getD x2 q4 (0 : Int))] : List Int) ([(List.getD x2 q5 (0 : Int)), (List.getD x2 q6 (0 : Int)), (List.getD x2 q7 (0 : Int))] : List Int) x0)))))) (f1 x2 (-1 : Int) ([] : List Int) ([(List.getD x2 q1 (0 : Int)), (List.getD x2 q2 (0 : Int))] : List Int) x0)) (iteB (decide (((List.length x2 : Nat) : Int) = (3 : Int))) (wnR (2 : Int) (List.length x2) fun q8 => (wnR (1 : Int) (List.length x2) fun q9 => (wnR (0 : Int) (List.length x2) fun q10 => (wnR (2 : Int) (List.length x2) fun q11 => (wnR (1 : Int) (List.length x2) fun q12 => (f1 x2 (List.getD x2 q8 (0 : Int)) ([(List.getD x2 q9 (0 : Int))] : List Int) ([(List.getD x2 q10 (0 : Int)), (List.getD x2 q11 (0 : Int)), (List.getD x2 q12 (0 : Int))] : List Int) x0)))))) (f1 x2 (-1 : Int) ([] : List Int) ([(List.getD x2 q1 (0 : Int)), (List.getD x2 q2 (0 : Int))] : List Int) x0))))) (iteB (decide (x1 = (2 : Int))) (wnR (0 : Int) (List.length x2) fun q13 => (wnR (1 : Int) (List.length x2) fun q14 => (wnR (2 : Int) (List.length x2) fun q15 => (wnR (3 : Int) (List.length x2) fun q16 => (bindR (s_Q1 (x0, ((List.getD x2 q13 (0 : Int)), (([(List.getD x2 q14 (0 : Int)), (List.getD x2 q15 (0 : Int)), (List.getD x2 q16 (0 : Int))] : List Int), ())))) fun r17 => (wnR (0 : Int) (List.length x2) fun q18 => (wnR (1 : Int) (List.length x2) fun q19 => (wnR (2 : Int) (List.length x2) fun q20 => (wnR (3 : Int) (List.length x2) fun q21 => (iteB (decide ((0 : Int) ≤ r17.1.1)) (wnR (1 : Int) (List.length x2) fun q22 => (iteB (decide ((List.getD x2 q22 (0 : Int)) < x0.2.1)) (wnR (2 : Int) (List.length x2) fun q23 => (iteB (decide (x0.2.1 < (List.getD x2 q23 (0 : Int)))) (wnR (3 : Int) (List.length x2) fun q24 => (some ((([r17.1.1, (List.getD x2 q18 (0 : Int)), (List.getD x2 q19 (0 : Int)), (List.getD x2 q20 (0 : Int)), (List.getD x2 q21 (0 : Int))] : List Int), (decide ((List.getD x2 q24 (0 : Int)) < x0.2.1))), ()))) (some ((([r17.1.1, (List.getD x2 q18 (0 : Int)), (List.getD x2 q19 (0 : Int)), (List.getD x2 q20 (0 : Int)), (List.getD x2 q21 (0 : Int))] : List Int), false), ())))) (some ((([r17.1.1, (List.getD x2 q18 (0 : Int)), (List.getD x2 q19 (0 : Int)), (List.getD x2 q20 (0 : Int)), (List.getD x2 q21 (0 : Int))] : List Int), false), ())))) (some ((([r17.1.1, (List.getD x2 q18 (0 : Int)), (List.getD x2 q19 (0 : Int)), (List.getD x2 q20 (0 : Int)), (List.getD x2 q21 (0 : Int))] : List Int), false), ())))))))))))) (wnR (0 : Int) (List.length x2) fun q25 => (wnR (1 : Int) (List.length x2) fun q26 => (bindR (s_Q1 (x0, ((List.getD x2 q25 (0 : Int)), (([(List.getD x2 q26 (0 : Int))] : List Int), ())))) fun r27 => (wnR (0 : Int) (List.length x2) fun q28 => (wnR (1 : Int) (List.length x2) fun q29 => (iteB (decide ((0 : Int) ≤ r27.1.1)) (wnR (1 : Int) (List.length x2) fun q30 => (some ((([r27.1.1, (List.getD x2 q28 (0 : Int)), (List.getD x2 q29 (0 : Int))] : List Int), (decide ((List.getD x2 q30 (0 : Int)) < x0.2.1))), ()))) (some ((([r27.1.1, (List.getD x2 q28 (0 : Int)), (List.getD x2 q29 (0 : Int))] : List Int), false), ()))))))))))
theorem e0 (k : Nat) : u0 k = t0 (l1 k) := by kernel_rfl
def p0 (k : Nat) : T0 := t0 (p1 k)
theorem o0 (k : Nat) : u0 k = p0 k := (Eq.trans (b := t0 (l1 k)) (e0 k) (Eq.trans (b := t0 (p1 k)) (congrArg t0 (o1 k)) (by kernel_rfl)))
end Q2
def s_Q2 (a : D0 × (Int × ((List Int) × Unit))) : Option (((List Int) × Bool) × Unit) := Q2.p0 fuel a.1 a.2.1 a.2.2.1
def F_Q2 : FSpec cx.toNm := { ps := [.val ty0, .val (.int .u8), .val (.slice 3 (.int .i64))], nres := 2, rt := (.pair (.slice 3 (.int .i64)) .bool), rm := .ro, f := s_Q2 }
theorem w_Q2 (a : D0 × (Int × ((List Int) × Unit))) : runOf (S := cx) Q2.E Q2.h fuel Try.f52 F_Q2.ps F_Q2.rt F_Q2.rm a = F_Q2.f a := Eq.trans (b := Q2.u0 fuel a.1 a.2.1 a.2.2.1) (by kernel_rfl) (Eq.trans (b := Q2.p0 fuel a.1 a.2.1 a.2.2.1) (congrFun (congrFun (congrFun (Q2.o0 fuel) a.1) a.2.1) a.2.2.1) (by kernel_rfl))
theorem ok_Q2 : FnOk Try.prog F_Q2 52 := fn_of (hn := Q2.h) (E := Q2.E) cxOk (tysT _ _) (fs_cons ok_Q1 fs_nil) follows Try.func52 (by kernel_rfl) (fun a r h => ⟨fuel, Eq.trans (w_Q2 a) h⟩)
namespace Q3
def E : Env cx := { tys := tys, fs := fsOf [(52, F_Q2), (53, F_Q0)] }
abbrev R := Option (Bool × Unit)
abbrev C := Exit → ST cx → R
noncomputable def b : Code := bodyC Try.f34
def h : Hint := { vs := [0, 1, 2, 3, 6, 7, 8, 9, 10, 11, 12], nil := [], cuts := [(2, ([1, 2, 3, 7], [3]), ([], [])), (3, ([1, 2, 3, 7], [3]), ([1, 2, 3, 7], [3])), (7, ([1, 2, 3, 7, 8], [3]), ([1, 2, 3, 7], [3])), (14, ([1, 2, 3, 7, 9], [3]), ([1, 2, 3, 7], [3])), (15, ([1, 2, 3, 7, 9, 10], [3]), ([1, 2, 3, 7, 9], [3])), (16, ([1, 2, 3, 7, 9, 10], [3]), ([1, 2, 3, 7, 9, 10], [3])), (18, ([1, 2, 3, 7, 9, 10, 66], [3]), ([1, 2, 3, 7, 9, 10], [3])), (19, ([1, 2, 3, 7, 9], [3]), ([1, 2, 3, 7], [3])), (21, ([1, 2, 3, 7, 84], [3]), ([1, 2, 3, 7], [3])), (22, ([], []), ([], []))], ret := ([6], [3]), ords := [] }
def K0 : C := fin (S := cx) E Try.f34.results.toList .bool .ro [] []
def c0 : Code := subC b [1]
def K1 (k : Nat) : C := outD h c0 K0
def c1 : Code := subC b [1, 1]
def K3 (k : Nat) : C := outD h c1 (K1 k)
def K4 (k : Nat) : C := seqC E h k c1 (K1 k)
def c2 : Code := subC b [1, 0, 1]
def K5 (k : Nat) : C := outD h c2 (K4 k)
def K7 (k : Nat) : C := blockK 0 (K5 k)
def c3 : Code := subC b [1, 0, 1, 0, 0]
def K8 (k n1 : Nat) : C := loopD E h k c3 (K7 k) n1
def c4 : Code := subC b [1, 0, 1, 0, 0, 1]
def K9 (k n1 : Nat) : C := outD h c4 (K8 k n1)
def c6 : Code := subC b [1, 0, 1, 0, 0, 1, 1]
def K13 (k n1 : Nat) : C := outD h c6 (K9 k n1)
def K14 (k n1 : Nat) : C := seqC E h k c6 (K9 k n1)
def K15 (k n1 : Nat) : C := blockK 1 (K14 k n1)
def c7 : Code := subC b [1, 0, 1, 0, 0, 1, 0, 0, 1]
def K16 (k n1 : Nat) : C := outD h c7 (K15 k n1)
def c8 : Code := subC b [1, 0, 1, 0, 0, 1, 0, 0, 1, 1]
def K18 (k n1 : Nat) : C := outD h c8 (K16 k n1)
def c10 : Code := subC b [1, 0, 1, 0, 0, 1, 0, 0, 1, 1, 1]
def K22 (k n1 : Nat) : C := outD h c10 (K18 k n1)
def c13 : Code := subC b [1, 0, 1, 0, 0, 1, 0, 0, 1, 1, 1, 1]
def K28 (k n1 : Nat) : C := outD h c13 (K22 k n1)
def c14 : Code := subC b [1, 0, 1, 0, 0, 1, 0, 0, 1, 1, 1, 1, 1]
def K30 (k n1 : Nat) : C := outD h c14 (K28 k n1)
def c18 : Code := subC b [1, 0, 1, 0, 0, 1, 0, 0, 1, 1, 1, 1, 1, 1]
def K38 (k n1 : Nat) : C := outD h c18 (K30 k n1)
def K39 (k n1 : Nat) : C := seqC E h k c18 (K30 k n1)
def c19 : Code := subC b [1, 0, 1, 0, 0, 1, 0, 0, 1, 1, 1, 1, 1, 0, 1]
def K40 (k n1 : Nat) : C := outD h c19 (K39 k n1)
def K42 (k n1 : Nat) : C := blockK 2 (K40 k n1)
def c20 : Code := subC b [1, 0, 1, 0, 0, 1, 0, 0, 1, 1, 1, 1, 1, 0, 1, 0, 0]
def K43 (k n1 n5 : Nat) : C := loopD E h k c20 (K42 k n1) n5
def c21 : Code := subC b [1, 0, 1, 0, 0, 1, 0, 0, 1, 1, 1, 1, 1, 0, 1, 0, 0, 1]
def K44 (k n1 n5 : Nat) : C := outD h c21 (K43 k n1 n5)
def c23 : Code := subC b [1, 0, 1, 0, 0, 1, 0, 0, 1, 1, 1, 1, 1, 0, 1, 0, 0, 1, 1]
def K48 (k n1 n5 : Nat) : C := outD h c23 (K44 k n1 n5)
def K49 (k n1 n5 : Nat) : C := seqC E h k c23 (K44 k n1 n5)
def K50 (k n1 n5 : Nat) : C := blockK 3 (K49 k n1 n5)
def c24 : Code := subC b [1, 0, 1, 0, 0, 1, 0, 0, 1, 1, 1, 1, 1, 0, 1, 0, 0, 1, 0, 0, 1]
def K51 (k n1 n5 : Nat) : C := outD h c24 (K50 k n1 n5)
def c26 : Code := subC b [1, 0, 1, 0, 0, 1, 0, 0, 1, 1, 1, 1, 1, 1, 1]
def K55 (k n1 : Nat) : C := outD h c26 (K38 k n1)
def c27 : Code := subC b [1, 0, 1, 0, 0, 1, 0, 0, 1, 1, 1, 1, 1, 1, 1, 1]
def K57 (k n1 : Nat) : C := outD h c27 (K55 k n1)
abbrev T8 := Int → (List (List Int)) → Int → (List Int) → Int → D0 → R
abbrev T6 := Int → (List (List Int)) → Int → (List Int) → Int → Bool → D0 → R
abbrev T10 := Int → (List (List Int)) → Int → D0 → R
abbrev T9 := Int → (List (List Int)) → Int → Bool → D0 → R
abbrev T7 := Int → (List (List Int)) → Int → (List Int) → D0 → R
abbrev T5 := Int → (List (List Int)) → Int → (List Int) → Int → D0 → R
abbrev T4 := Int → (List (List Int)) → Int → (List Int) → D0 → R
abbrev T2 := Int → (List (List Int)) → Int → Int → D0 → R
abbrev T3 := R
abbrev T1 := Int → (List (List Int)) → Int → D0 → R
abbrev T0 := D0 → Int → (List (List Int)) → R
abbrev s8 := fun x1 x2 x7 x9 x10 m3 => (⟨[(1, .v (.int .u8) .ro x1), (2, .v (.slice 24 (.slice 3 (.int .i64))) .ro x2), (3, .addr (.mem 3) []), (7, .v (.int .i64) .ro x7), (9, .v (.slice 3 (.int .i64)) .ro x9), (10, .v (.int .i64) .ro x10)], [], [(3, ⟨ty0, .ro, m3⟩)]⟩ : ST cx)
def u8 (k n1 n5 : Nat) : T8 := fun x1 x2 x7 x9 x10 m3 => uK (run E h k c23) (s8 x1 x2 x7 x9 x10 m3) (K48 k n1 n5)
abbrev l8 (k n1 n5 : Nat) : T8 := fun x1 x2 x7 x9 x10 m3 => cutK (run E h k c23) (s8 x1 x2 x7 x9 x10 m3) (K48 k n1 n5)
abbrev s6 := fun x1 x2 x7 x9 x10 x66 m3 => (⟨[(1, .v (.int .u8) .ro x1), (2, .v (.slice 24 (.slice 3 (.int .i64))) .ro x2), (3, .addr (.mem 3) []), (7, .v (.int .i64) .ro x7), (9, .v (.slice 3 (.int .i64)) .ro x9), (10, .v (.int .i64) .ro x10), (66, .v .bool .ro x66)], [], [(3, ⟨ty0, .ro, m3⟩)]⟩ : ST cx)
def u6 (k n1 n5 : Nat) : T6 := fun x1 x2 x7 x9 x10 x66 m3 => uK (run E h k c24) (s6 x1 x2 x7 x9 x10 x66 m3) (K51 k n1 n5)
abbrev l6 (k n1 n5 : Nat) : T6 := fun x1 x2 x7 x9 x10 x66 m3 => cutK (run E h k c24) (s6 x1 x2 x7 x9 x10 x66 m3) (K51 k n1 n5)
abbrev s10 := fun x1 x2 x7 m3 => (⟨[(1, .v (.int .u8) .ro x1), (2, .v (.slice 24 (.slice 3 (.int .i64))) .ro x2), (3, .addr (.mem 3) []), (7, .v (.int .i64) .ro x7)], [], [(3, ⟨ty0, .ro, m3⟩)]⟩ : ST cx)
def u10 (k n1 : Nat) : T10 := fun x1 x2 x7 m3 => uK (run E h k c6) (s10 x1 x2 x7 m3) (K13 k n1)
abbrev l10 (k n1 : Nat) : T10 := fun x1 x2 x7 m3 => cutK (run E h k c6) (s10 x1 x2 x7 m3) (K13 k n1)
abbrev s9 := fun x1 x2 x7 x84 m3 => (⟨[(1, .v (.int .u8) .ro x1), (2, .v (.slice 24 (.slice 3 (.int .i64))) .ro x2), (3, .addr (.mem 3) []), (7, .v (.int .i64) .ro x7), (84, .v .bool .ro x84)], [], [(3, ⟨ty0, .ro, m3⟩)]⟩ : ST cx)
def u9 (k n1 : Nat) : T9 := fun x1 x2 x7 x84 m3 => uK (run E h k c27) (s9 x1 x2 x7 x84 m3) (K57 k n1)
abbrev l9 (k n1 : Nat) : T9 := fun x1 x2 x7 x84 m3 => cutK (run E h k c27) (s9 x1 x2 x7 x84 m3) (K57 k n1)
abbrev s7 := fun x1 x2 x7 x9 m3 => (⟨[(1, .v (.int .u8) .ro x1), (2, .v (.slice 24 (.slice 3 (.int .i64))) .ro x2), (3, .addr (.mem 3) []), (7, .v (.int .i64) .ro x7), (9, .v (.slice 3 (.int .i64)) .ro x9)], [], [(3, ⟨ty0, .ro, m3⟩)]⟩ : ST cx)
def u7 (k n1 : Nat) : T7 := fun x1 x2 x7 x9 m3 => uK (run E h k c18) (s7 x1 x2 x7 x9 m3) (K38 k n1)
abbrev l7 (k n1 : Nat) : T7 := fun x1 x2 x7 x9 m3 => cutK (run E h k c18) (s7 x1 x2 x7 x9 m3) (K38 k n1)
abbrev s5 := fun x1 x2 x7 x9 x10 m3 => (⟨[(1, .v (.int .u8) .ro x1), (2, .v (.slice 24 (.slice 3 (.int .i64))) .ro x2), (3, .addr (.mem 3) []), (7, .v (.int .i64) .ro x7), (9, .v (.slice 3 (.int .i64)) .ro x9), (10, .v (.int .i64) .ro x10)], [], [(3, ⟨ty0, .ro, m3⟩)]⟩ : ST cx)
def u5 (k n1 n5 : Nat) : T5 := fun x1 x2 x7 x9 x10 m3 => uK (loopL E h k c20 (K42 k n1) n5) (s5 x1 x2 x7 x9 x10 m3) ()
abbrev l5 (k n1 n5 : Nat) : T5 := fun x1 x2 x7 x9 x10 m3 => cutK (loopL E h k c20 (K42 k n1) n5) (s5 x1 x2 x7 x9 x10 m3) ()
abbrev s4 := fun x1 x2 x7 x9 m3 => (⟨[(1, .v (.int .u8) .ro x1), (2, .v (.slice 24 (.slice 3 (.int .i64))) .ro x2), (3, .addr (.mem 3) []), (7, .v (.int .i64) .ro x7), (9, .v (.slice 3 (.int .i64)) .ro x9)], [], [(3, ⟨ty0, .ro, m3⟩)]⟩ : ST cx)
def u4 (k n1 : Nat) : T4 := fun x1 x2 x7 x9 m3 => uK (run E h k c14) (s4 x1 x2 x7 x9 m3) (K30 k n1)
abbrev l4 (k n1 : Nat) : T4 := fun x1 x2 x7 x9 m3 => cutK (run E h k c14) (s4 x1 x2 x7 x9 m3) (K30 k n1)
abbrev s2 := fun x1 x2 x7 x8 m3 => (⟨[(1, .v (.int .u8) .ro x1), (2, .v (.slice 24 (.slice 3 (.int .i64))) .ro x2), (3, .addr (.mem 3) []), (7, .v (.int .i64) .ro x7), (8, .v (.int .i64) .ro x8)], [], [(3, ⟨ty0, .ro, m3⟩)]⟩ : ST cx)
def u2 (k n1 : Nat) : T2 := fun x1 x2 x7 x8 m3 => uK (run E h k c8) (s2 x1 x2 x7 x8 m3) (K18 k n1)
abbrev l2 (k n1 : Nat) : T2 := fun x1 x2 x7 x8 m3 => cutK (run E h k c8) (s2 x1 x2 x7 x8 m3) (K18 k n1)
abbrev s3 : ST cx := (⟨[], [], []⟩ : ST cx)
def u3 (k : Nat) : T3 := uK (run E h k c1) s3 (K3 k)
abbrev l3 (k : Nat) : T3 := cutK (run E h k c1) s3 (K3 k)
abbrev s1 := fun x1 x2 x7 m3 => (⟨[(1, .v (.int .u8) .ro x1), (2, .v (.slice 24 (.slice 3 (.int .i64))) .ro x2), (3, .addr (.mem 3) []), (7, .v (.int .i64) .ro x7)], [], [(3, ⟨ty0, .ro, m3⟩)]⟩ : ST cx)
def u1 (k n1 : Nat) : T1 := fun x1 x2 x7 m3 => uK (loopL E h k c3 (K7 k) n1) (s1 x1 x2 x7 m3) ()
abbrev l1 (k n1 : Nat) : T1 := fun x1 x2 x7 m3 => cutK (loopL E h k c3 (K7 k) n1) (s1 x1 x2 x7 m3) ()
def u0 (k : Nat) : T0 := fun x0 x1 x2 => runOf (S := cx) E h k Try.f34 [.val ty0, .val (.int .u8), .val (.slice 24 (.slice 3 (.int .i64)))] .bool .ro (x0, x1, x2, ())
def t8 (f5 : T5) : T8 := fun x1 x2 x7 x9 x10 m3 => (f5 x1 x2 x7 x9 (w64 (x10 + (1 : Int))) m3)
theorem e8 (k n1 n5 : Nat) : u8 k n1 n5 = t8 (l5 k n1 n5) := by kernel_rfl
theorem g8 (k n1 n5 : Nat) : l8 k n1 n5 = u8 k n1 n5 := funext fun _ => funext fun _ => funext fun _ => funext fun _ => funext fun _ => funext fun _ => cut_u _ _ _
def p8 (k : Nat) (a1 : T1) (a5 : T5) : T8 := t8 a5
theorem o8 (k n1 n5 : Nat) (a1 : T1) (a5 : T5) (h1 : l1 k n1 = a1) (h5 : l5 k n1 n5 = a5) : l8 k n1 n5 = p8 k a1 a5 := (Eq.trans (b := u8 k n1 n5) (g8 k n1 n5) (Eq.trans (b := t8 (l5 k n1 n5)) (e8 k n1 n5) (Eq.trans (b := t8 a5) (congrArg t8 h5) (by kernel_rfl))))
def t6 (f8 : T8) : T6 := fun x1 x2 x7 x9 x10 x66 m3 => (iteB x66 (some (false, ())) (f8 x1 x2 x7 x9 x10 m3))
theorem e6 (k n1 n5 : Nat) : u6 k n1 n5 = t6 (l8 k n1 n5) := by kernel_rfl
theorem g6 (k n1 n5 : Nat) : l6 k n1 n5 = u6 k n1 n5 := funext fun _ => funext fun _ => funext fun _ => funext fun _ => funext fun _ => funext fun _ => funext fun _ => cut_u _ _ _
def p6 (k : Nat) (a1 : T1) (a5 : T5) : T6 := t6 (p8 k a1 a5)
theorem o6 (k n1 n5 : Nat) (a1 : T1) (a5 : T5) (h1 : l1 k n1 = a1) (h5 : l5 k n1 n5 = a5) : l6 k n1 n5 = p6 k a1 a5 := (Eq.trans (b := u6 k n1 n5) (g6 k n1 n5) (Eq.trans (b := t6 (l8 k n1 n5)) (e6 k n1 n5) (Eq.trans (b := t6 (p8 k a1 a5)) (congrArg t6 (o8 k n1 n5 a1 a5 h1 h5)) (by kernel_rfl))))
def t10 (f1 : T1) : T10 := fun x1 x2 x7 m3 => (f1 x1 x2 (w64 (x7 + (1 : Int))) m3)
theorem e10 (k n1 : Nat) : u10 k n1 = t10 (l1 k n1) := by kernel_rfl
theorem g10 (k n1 : Nat) : l10 k n1 = u10 k n1 := funext fun _ => funext fun _ => funext fun _ => funext fun _ => cut_u _ _ _
def p10 (k : Nat) (a1 : T1) : T10 := t10 a1
theorem o10 (k n1 : Nat) (a1 : T1) (h1 : l1 k n1 = a1) : l10 k n1 = p10 k a1 := (Eq.trans (b := u10 k n1) (g10 k n1) (Eq.trans (b := t10 (l1 k n1)) (e10 k n1) (Eq.trans (b := t10 a1) (congrArg t10 h1) (by kernel_rfl))))
def t9 (f10 : T10) : T9 := fun x1 x2 x7 x84 m3 => (iteB x84 (some (false, ())) (f10 x1 x2 x7 m3))
theorem e9 (k n1 : Nat) : u9 k n1 = t9 (l10 k n1) := by kernel_rfl
theorem g9 (k n1 : Nat) : l9 k n1 = u9 k n1 := funext fun _ => funext fun _ => funext fun _ => funext fun _ => funext fun _ => cut_u _ _ _
def p9 (k : Nat) (a1 : T1) : T9 := t9 (p10 k a1)
theorem o9 (k n1 : Nat) (a1 : T1) (h1 : l1 k n1 = a1) : l9 k n1 = p9 k a1 := (Eq.trans (b := u9 k n1) (g9 k n1) (Eq.trans (b := t9 (l10 k n1)) (e9 k n1) (Eq.trans (b := t9 (p10 k a1)) (congrArg t9 (o10 k n1 a1 h1)) (by kernel_rfl))))
def t7 (f9 : T9) : T7 := fun x1 x2 x7 x9 m3 => (bindR (s_Q2 (m3, (x1, (x9, ())))) fun r7 => (iteB (notB r7.1.2) (f9 x1 x2 x7 true m3) (wnR x7 (List.length x2) fun q8 => (bindR (s_Q0 (r7.1.1, ((List.getD x2 q8 ([] : List Int)), ()))) fun r9 => (f9 x1 x2 x7 (notB r9.1) m3)))))
theorem e7 (k n1 : Nat) : u7 k n1 = t7 (l9 k n1) := by kernel_rfl
theorem g7 (k n1 : Nat) : l7 k n1 = u7 k n1 := funext fun _ => funext fun _ => funext fun _ => funext fun _ => funext fun _ => cut_u _ _ _
def p7 (k : Nat) (a1 : T1) : T7 := t7 (p9 k a1)
theorem o7 (k n1 : Nat) (a1 : T1) (h1 : l1 k n1 = a1) : l7 k n1 = p7 k a1 := (Eq.trans (b := u7 k n1) (g7 k n1) (Eq.trans (b := t7 (l9 k n1)) (e7 k n1) (Eq.trans (b := t7 (p9 k a1)) (congrArg t7 (o9 k n1 a1 h1)) (by kernel_rfl))))
def t5 (f6 : T6) (f7 : T7) : T5 := fun x1 x2 x7 x9 x10 m3 => (iteB (decide (x10 < ((List.length x9 : Nat) : Int))) (wnR x10 (List.length x9) fun q5 => (iteB (decide ((List.getD x9 q5 (0 : Int)) < (0 : Int))) (f6 x1 x2 x7 x9 x10 true m3) (wnR x10 (List.length x9) fun q6 => (f6 x1 x2 x7 x9 x10 (decide (((List.length m3.1 : Nat) : Int) ≤ (List.getD x9 q6 (0 : Int)))) m3)))) (f7 x1 x2 x7 x9 m3))
theorem e5 (k n1 n5 : Nat) : u5 k n1 (n5 + 1) = t5 (l6 k n1 n5) (l7 k n1) := by kernel_rfl
theorem g5 (k n1 n5 : Nat) : l5 k n1 (n5 + 1) = u5 k n1 (n5 + 1) := funext fun _ => funext fun _ => funext fun _ => funext fun _ => funext fun _ => funext fun _ => cut_u _ _ _
def p5 (k : Nat) (a1 : T1) : Nat → T5
  | 0 => fun _ _ _ _ _ _ => none
  | n5 + 1 => t5 (p6 k a1 (p5 k a1 n5)) (p7 k a1)
theorem o5 (k n1 : Nat) (a1 : T1) (h1 : l1 k n1 = a1) : ∀ n5, l5 k n1 n5 = p5 k a1 n5 := by
  intro n5
  induction n5 with
  | zero => kernel_rfl
  | succ n5 ih => exact (Eq.trans (b := u5 k n1 (n5 + 1)) (g5 k n1 n5) (Eq.trans (b := t5 (l6 k n1 n5) (l7 k n1)) (e5 k n1 n5) (Eq.trans (b := t5 (p6 k a1 (p5 k a1 n5)) (p7 k a1)) (congr (congrArg t5 (o6 k n1 n5 a1 (p5 k a1 n5) h1 ih)) (o7 k n1 a1 h1)) (by kernel_rfl))))
def t4 (f5 : T5) : T4 := fun x1 x2 x7 x9 m3 => (f5 x1 x2 x7 x9 (0 : Int) m3)
theorem e4 (k n1 : Nat) : u4 k n1 = t4 (l5 k n1 k) := by kernel_rfl
theorem g4 (k n1 : Nat) : l4 k n1 = u4 k n1 := funext fun _ => funext fun _ => funext fun _ => funext fun _ => funext fun _ => cut_u _ _ _
def p4 (k : Nat) (a1 : T1) : T4 := t4 (p5 k a1 k)
theorem o4 (k n1 : Nat) (a1 : T1) (h1 : l1 k n1 = a1) : l4 k n1 = p4 k a1 := (Eq.trans (b := u4 k n1) (g4 k n1) (Eq.trans (b := t4 (l5 k n1 k)) (e4 k n1) (Eq.trans (b := t4 (p5 k a1 k)) (congrArg t4 (o5 k n1 a1 h1 k)) (by kernel_rfl))))
def t2 (f4 : T4) : T2 := fun x1 x2 x7 x8 m3 => (wnR x7 (List.length x2) fun q1 => (iteB (!decide (((List.length (List.getD x2 q1 ([] : List Int)) : Nat) : Int) = x8)) (some (false, ())) (wnR x7 (List.length x2) fun q2 => (mustR (decide (0 ≤ (1 : Int))) (mustR (decide ((1 : Int) ≤ (((List.length (List.getD x2 q2 ([] : List Int))) : Nat) : Int))) (iteB (decide (x1 = (1 : Int))) (wnR x7 (List.length x2) fun q3 => (mustR (decide (0 ≤ (3 : Int))) (mustR (decide ((3 : Int) ≤ (((List.length (List.getD x2 q3 ([] : List Int))) : Nat) : Int))) (wnR (2 : Int) (List.length (List.drop 0 (List.take (Int.toNat (3 : Int)) (List.getD x2 q3 ([] : List Int))))) fun q4 => (iteB (decide ((List.getD (List.drop 0 (List.take (Int.toNat (3 : Int)) (List.getD x2 q3 ([] : List Int)))) q4 (0 : Int)) = (-1 : Int))) (mustR (decide (0 ≤ (2 : Int))) (mustR (decide ((2 : Int) ≤ (((List.length (List.drop 0 (List.take (Int.toNat (3 : Int)) (List.getD x2 q3 ([] : List Int))))) : Nat) : Int))) (f4 x1 x2 x7 (List.drop 0 (List.take (Int.toNat (2 : Int)) (List.drop 0 (List.take (Int.toNat (3 : Int)) (List.getD x2 q3 ([] : List Int)))))) m3))) (f4 x1 x2 x7 (List.drop 0 (List.take (Int.toNat (3 : Int)) (List.getD x2 q3 ([] : List Int)))) m3)))))) (f4 x1 x2 x7 (List.drop (Int.toNat (1 : Int)) (List.take (List.length (List.getD x2 q2 ([] : List Int))) (List.getD x2 q2 ([] : List Int)))) m3)))))))
theorem e2 (k n1 : Nat) : u2 k n1 = t2 (l4 k n1) := by kernel_rfl
theorem g2 (k n1 : Nat) : l2 k n1 = u2 k n1 := funext fun _ => funext fun _ => funext fun _ => funext fun _ => funext fun _ => cut_u _ _ _
def p2 (k : Nat) (a1 : T1) : T2 := t2 (p4 k a1)
theorem o2 (k n1 : Nat) (a1 : T1) (h1 : l1 k n1 = a1) : l2 k n1 = p2 k a1 := (Eq.trans (b := u2 k n1) (g2 k n1) (Eq.trans (b := t2 (l4 k n1)) (e2 k n1) (Eq.trans (b := t2 (p4 k a1)) (congrArg t2 (o4 k n1 a1 h1)) (by kernel_rfl))))
def t3 : T3 := 
  (some (true, ()))
theorem e3 (k : Nat) : u3 k = t3 := by kernel_rfl
theorem g3 (k : Nat) : l3 k = u3 k := cut_u _ _ _
def p3 (k : Nat) : T3 := t3
theorem o3 (k : Nat) : l3 k = p3 k := (Eq.trans (b := u3 k) (g3 k) (Eq.trans (b := t3) (e3 k) (by kernel_rfl)))
def t1 (f2 : T2) (f3 : T3) : T1 := fun x1 x2 x7 m3 => (iteB (decide (x7 < ((List.length x2 : Nat) : Int))) (iteB (decide (x1 = (3 : Int))) (f2 x1 x2 x7 (3 : Int) m3) (f2 x1 x2 x7 (5 : Int) m3)) f3)
theorem e1 (k n1 : Nat) : u1 k (n1 + 1) = t1 (l2 k n1) (l3 k) := by kernel_rfl
theorem g1 (k n1 : Nat) : l1 k (n1 + 1) = u1 k (n1 + 1) := funext fun _ => funext fun _ => funext fun _ => funext fun _ => cut_u _ _ _
def p1 (k : Nat) : Nat → T1
  | 0 => fun _ _ _ _ => none
  | n1 + 1 => t1 (p2 k (p1 k n1)) (p3 k)
theorem o1 (k : Nat) : ∀ n1, l1 k n1 = p1 k n1 := by
  intro n1
  induction n1 with
  | zero => kernel_rfl
  | succ n1 ih => exact (Eq.trans (b := u1 k (n1 + 1)) (g1 k n1) (Eq.trans (b := t1 (l2 k n1) (l3 k)) (e1 k n1) (Eq.trans (b := t1 (p2 k (p1 k n1)) (p3 k)) (congr (congrArg t1 (o2 k n1 (p1 k n1) ih)) (o3 k)) (by kernel_rfl))))
def t0 (f1 : T1) : T0 := fun x0 x1 x2 => (f1 x1 x2 (0 : Int) x0)
theorem e0 (k : Nat) : u0 k = t0 (l1 k k) := by kernel_rfl
def p0 (k : Nat) : T0 := t0 (p1 k k)
theorem o0 (k : Nat) : u0 k = p0 k := (Eq.trans (b := t0 (l1 k k)) (e0 k) (Eq.trans (b := t0 (p1 k k)) (congrArg t0 (o1 k k)) (by kernel_rfl)))
end Q3
def s_Q3 (a : D0 × (Int × ((List (List Int)) × Unit))) : Option (Bool × Unit) := Q3.p0 fuel a.1 a.2.1 a.2.2.1
def F_Q3 : FSpec cx.toNm := { ps := [.val ty0, .val (.int .u8), .val (.slice 24 (.slice 3 (.int .i64)))], nres := 1, rt := .bool, rm := .ro, f := s_Q3 }
theorem w_Q3 (a : D0 × (Int × ((List (List Int)) × Unit))) : runOf (S := cx) Q3.E Q3.h fuel Try.f34 F_Q3.ps F_Q3.rt F_Q3.rm a = F_Q3.f a := Eq.trans (b := Q3.u0 fuel a.1 a.2.1 a.2.2.1) (by kernel_rfl) (Eq.trans (b := Q3.p0 fuel a.1 a.2.1 a.2.2.1) (congrFun (congrFun (congrFun (Q3.o0 fuel) a.1) a.2.1) a.2.2.1) (by kernel_rfl))
theorem ok_Q3 : FnOk Try.prog F_Q3 34 := fn_of (hn := Q3.h) (E := Q3.E) cxOk (tysT _ _) (fs_cons ok_Q2 (fs_cons ok_Q0 fs_nil)) follows Try.func34 (by kernel_rfl) (fun a r h => ⟨fuel, Eq.trans (w_Q3 a) h⟩)
namespace Q4
def E : Env cx := { tys := tys, fs := fsOf [] }
abbrev R := Option ((List (List Bool)) × Unit)
abbrev C := Exit → ST cx → R
noncomputable def b : Code := bodyC Try.f51
def h : Hint := { vs := [0, 2, 3, 4, 5, 6], nil := [(0, (.own .ro)), (2, (.own (.own .ro)))], cuts := [(3, ([0, 3, 4], []), ([0], [])), (4, ([0, 3, 4], []), ([0, 3, 4], [])), (6, ([0, 3, 4, 5], []), ([0, 3, 4], [])), (7, ([0, 3, 4, 5], []), ([0, 3, 4, 5], [])), (9, ([0, 3, 4, 5, 6], []), ([0, 3, 4, 5], [])), (10, ([0, 3, 4, 5, 6], []), ([0, 3, 4, 5, 6], [])), (12, ([0], []), ([0], []))], ret := ([2], []), ords := [] }
def K0 : C := fin (S := cx) E Try.f51.results.toList (.slice 76 (.slice 4 .bool)) (.own (.own .ro)) [] []
def c0 : Code := subC b [1]
def K1 (k : Nat) : C := outD h c0 K0
def c1 : Code := subC b [1, 1]
def K3 (k : Nat) : C := outD h c1 (K1 k)
def c2 : Code := subC b [1, 1, 1]
def K5 (k : Nat) : C := outD h c2 (K3 k)
def K6 (k : Nat) : C := seqC E h k c2 (K3 k)
def c3 : Code := subC b [1, 1, 0, 1]
def K7 (k : Nat) : C := outD h c3 (K6 k)
def K9 (k : Nat) : C := blockK 0 (K7 k)
def c4 : Code := subC b [1, 1, 0, 1, 0, 0]
def K10 (k n1 : Nat) : C := loopD E h k c4 (K9 k) n1
def c5 : Code := subC b [1, 1, 0, 1, 0, 0, 1]
def K11 (k n1 : Nat) : C := outD h c5 (K10 k n1)
def c7 : Code := subC b [1, 1, 0, 1, 0, 0, 1, 1]
def K15 (k n1 : Nat) : C := outD h c7 (K11 k n1)
def K16 (k n1 : Nat) : C := seqC E h k c7 (K11 k n1)
def K17 (k n1 : Nat) : C := blockK 1 (K16 k n1)
def c8 : Code := subC b [1, 1, 0, 1, 0, 0, 1, 0, 0, 1]
def K18 (k n1 : Nat) : C := outD h c8 (K17 k n1)
def K20 (k n1 : Nat) : C := blockK 2 (K18 k n1)
def c9 : Code := subC b [1, 1, 0, 1, 0, 0, 1, 0, 0, 1, 0, 0]
def K21 (k n1 n2 : Nat) : C := loopD E h k c9 (K20 k n1) n2
def c10 : Code := subC b [1, 1, 0, 1, 0, 0, 1, 0, 0, 1, 0, 0, 1]
def K22 (k n1 n2 : Nat) : C := outD h c10 (K21 k n1 n2)
def c12 : Code := subC b [1, 1, 0, 1, 0, 0, 1, 0, 0, 1, 0, 0, 1, 1]
def K26 (k n1 n2 : Nat) : C := outD h c12 (K22 k n1 n2)
def K27 (k n1 n2 : Nat) : C := seqC E h k c12 (K22 k n1 n2)
def K28 (k n1 n2 : Nat) : C := blockK 3 (K27 k n1 n2)
def c13 : Code := subC b [1, 1, 0, 1, 0, 0, 1, 0, 0, 1, 0, 0, 1, 0, 0, 1]
def K29 (k n1 n2 : Nat) : C := outD h c13 (K28 k n1 n2)
def K31 (k n1 n2 : Nat) : C := blockK 4 (K29 k n1 n2)
def c14 : Code := subC b [1, 1, 0, 1, 0, 0, 1, 0, 0, 1, 0, 0, 1, 0, 0, 1, 0, 0]
def K32 (k n1 n2 n4 : Nat) : C := loopD E h k c14 (K31 k n1 n2) n4
def c15 : Code := subC b [1, 1, 0, 1, 0, 0, 1, 0, 0, 1, 0, 0, 1, 0, 0, 1, 0, 0, 1]
def K33 (k n1 n2 n4 : Nat) : C := outD h c15 (K32 k n1 n2 n4)
def c17 : Code := subC b [1, 1, 0, 1, 0, 0, 1, 0, 0, 1, 0, 0, 1, 0, 0, 1, 0, 0, 1, 1]
def K37 (k n1 n2 n4 : Nat) : C := outD h c17 (K33 k n1 n2 n4)
abbrev T6 := (List (List Bool)) → Int → Int → Int → Int → R
abbrev T7 := (List (List Bool)) → Int → Int → Int → R
abbrev T4 := (List (List Bool)) → Int → Int → Int → Int → R
abbrev T5 := (List (List Bool)) → Int → Int → R
abbrev T2 := (List (List Bool)) → Int → Int → Int → R
abbrev T3 := (List (List Bool)) → R
abbrev T1 := (List (List Bool)) → Int → Int → R
abbrev T0 := (List (List Bool)) → R
abbrev s6 := fun x0 x3 x4 x5 x6 => (⟨[(0, .v (.slice 76 (.slice 4 .bool)) (.own (.own .ro)) x0), (3, .v (.int .i64) .ro x3), (4, .v (.int .i64) .ro x4), (5, .v (.int .i64) .ro x5), (6, .v (.int .i64) .ro x6)], [], []⟩ : ST cx)
def u6 (k n1 n2 n4 : Nat) : T6 := fun x0 x3 x4 x5 x6 => uK (run E h k c17) (s6 x0 x3 x4 x5 x6) (K37 k n1 n2 n4)
abbrev l6 (k n1 n2 n4 : Nat) : T6 := fun x0 x3 x4 x5 x6 => cutK (run E h k c17) (s6 x0 x3 x4 x5 x6) (K37 k n1 n2 n4)
abbrev s7 := fun x0 x3 x4 x5 => (⟨[(0, .v (.slice 76 (.slice 4 .bool)) (.own (.own .ro)) x0), (3, .v (.int .i64) .ro x3), (4, .v (.int .i64) .ro x4), (5, .v (.int .i64) .ro x5)], [], []⟩ : ST cx)
def u7 (k n1 n2 : Nat) : T7 := fun x0 x3 x4 x5 => uK (run E h k c12) (s7 x0 x3 x4 x5) (K26 k n1 n2)
abbrev l7 (k n1 n2 : Nat) : T7 := fun x0 x3 x4 x5 => cutK (run E h k c12) (s7 x0 x3 x4 x5) (K26 k n1 n2)
abbrev s4 := fun x0 x3 x4 x5 x6 => (⟨[(0, .v (.slice 76 (.slice 4 .bool)) (.own (.own .ro)) x0), (3, .v (.int .i64) .ro x3), (4, .v (.int .i64) .ro x4), (5, .v (.int .i64) .ro x5), (6, .v (.int .i64) .ro x6)], [], []⟩ : ST cx)
def u4 (k n1 n2 n4 : Nat) : T4 := fun x0 x3 x4 x5 x6 => uK (loopL E h k c14 (K31 k n1 n2) n4) (s4 x0 x3 x4 x5 x6) ()
abbrev l4 (k n1 n2 n4 : Nat) : T4 := fun x0 x3 x4 x5 x6 => cutK (loopL E h k c14 (K31 k n1 n2) n4) (s4 x0 x3 x4 x5 x6) ()
abbrev s5 := fun x0 x3 x4 => (⟨[(0, .v (.slice 76 (.slice 4 .bool)) (.own (.own .ro)) x0), (3, .v (.int .i64) .ro x3), (4, .v (.int .i64) .ro x4)], [], []⟩ : ST cx)
def u5 (k n1 : Nat) : T5 := fun x0 x3 x4 => uK (run E h k c7) (s5 x0 x3 x4) (K15 k n1)
abbrev l5 (k n1 : Nat) : T5 := fun x0 x3 x4 => cutK (run E h k c7) (s5 x0 x3 x4) (K15 k n1)
abbrev s2 := fun x0 x3 x4 x5 => (⟨[(0, .v (.slice 76 (.slice 4 .bool)) (.own (.own .ro)) x0), (3, .v (.int .i64) .ro x3), (4, .v (.int .i64) .ro x4), (5, .v (.int .i64) .ro x5)], [], []⟩ : ST cx)
def u2 (k n1 n2 : Nat) : T2 := fun x0 x3 x4 x5 => uK (loopL E h k c9 (K20 k n1) n2) (s2 x0 x3 x4 x5) ()
abbrev l2 (k n1 n2 : Nat) : T2 := fun x0 x3 x4 x5 => cutK (loopL E h k c9 (K20 k n1) n2) (s2 x0 x3 x4 x5) ()
abbrev s3 := fun x0 => (⟨[(0, .v (.slice 76 (.slice 4 .bool)) (.own (.own .ro)) x0)], [], []⟩ : ST cx)
def u3 (k : Nat) : T3 := fun x0 => uK (run E h k c2) (s3 x0) (K5 k)
abbrev l3 (k : Nat) : T3 := fun x0 => cutK (run E h k c2) (s3 x0) (K5 k)
abbrev s1 := fun x0 x3 x4 => (⟨[(0, .v (.slice 76 (.slice 4 .bool)) (.own (.own .ro)) x0), (3, .v (.int .i64) .ro x3), (4, .v (.int .i64) .ro x4)], [], []⟩ : ST cx)
def u1 (k n1 : Nat) : T1 := fun x0 x3 x4 => uK (loopL E h k c4 (K9 k) n1) (s1 x0 x3 x4) ()
abbrev l1 (k n1 : Nat) : T1 := fun x0 x3 x4 => cutK (loopL E h k c4 (K9 k) n1) (s1 x0 x3 x4) ()
def u0 (k : Nat) : T0 := fun x0 => runOf (S := cx) E h k Try.f51 [.own (.slice 76 (.slice 4 .bool)) (.own (.own .ro))] (.slice 76 (.slice 4 .bool)) (.own (.own .ro)) (x0, ())
def t6 (f4 : T4) : T6 := fun x0 x3 x4 x5 x6 => (f4 x0 x3 x4 x5 (w64 (x6 + (1 : Int))))
theorem e6 (k n1 n2 n4 : Nat) : u6 k n1 n2 n4 = t6 (l4 k n1 n2 n4) := by kernel_rfl
theorem g6 (k n1 n2 n4 : Nat) : l6 k n1 n2 n4 = u6 k n1 n2 n4 := funext fun _ => funext fun _ => funext fun _ => funext fun _ => funext fun _ => cut_u _ _ _
def p6 (k : Nat) (a1 : T1) (a2 : T2) (a4 : T4) : T6 := t6 a4
theorem o6 (k n1 n2 n4 : Nat) (a1 : T1) (a2 : T2) (a4 : T4) (h1 : l1 k n1 = a1) (h2 : l2 k n1 n2 = a2) (h4 : l4 k n1 n2 n4 = a4) : l6 k n1 n2 n4 = p6 k a1 a2 a4 := (Eq.trans (b := u6 k n1 n2 n4) (g6 k n1 n2 n4) (Eq.trans (b := t6 (l4 k n1 n2 n4)) (e6 k n1 n2 n4) (Eq.trans (b := t6 a4) (congrArg t6 h4) (by kernel_rfl))))
def t7 (f2 : T2) : T7 := fun x0 x3 x4 x5 => (f2 x0 x3 x4 (w64 (x5 + (1 : Int))))
theorem e7 (k n1 n2 : Nat) : u7 k n1 n2 = t7 (l2 k n1 n2) := by kernel_rfl
theorem g7 (k n1 n2 : Nat) : l7 k n1 n2 = u7 k n1 n2 := funext fun _ => funext fun _ => funext fun _ => funext fun _ => cut_u _ _ _
def p7 (k : Nat) (a1 : T1) (a2 : T2) : T7 := t7 a2
theorem o7 (k n1 n2 : Nat) (a1 : T1) (a2 : T2) (h1 : l1 k n1 = a1) (h2 : l2 k n1 n2 = a2) : l7 k n1 n2 = p7 k a1 a2 := (Eq.trans (b := u7 k n1 n2) (g7 k n1 n2) (Eq.trans (b := t7 (l2 k n1 n2)) (e7 k n1 n2) (Eq.trans (b := t7 a2) (congrArg t7 h2) (by kernel_rfl))))
def t4 (f6 : T6) (f7 : T7) : T4 := fun x0 x3 x4 x5 x6 => (iteB (decide (x6 < x3)) (wnR x5 (List.length x0) fun q1 => (wnR x5 (List.length x0) fun q2 => (wnR x6 (List.length (List.getD x0 q2 ([] : List Bool))) fun q3 => (iteB (List.getD (List.getD x0 q2 ([] : List Bool)) q3 false) (wnR x6 (List.length (List.getD x0 q1 ([] : List Bool))) fun q4 => (f6 (List.set x0 q1 (List.set (List.getD x0 q1 ([] : List Bool)) q4 true)) x3 x4 x5 x6)) (wnR x5 (List.length x0) fun q5 => (wnR x4 (List.length (List.getD x0 q5 ([] : List Bool))) fun q6 => (iteB (List.getD (List.getD x0 q5 ([] : List Bool)) q6 false) (wnR x4 (List.length x0) fun q7 => (wnR x6 (List.length (List.getD x0 q7 ([] : List Bool))) fun q8 => (wnR x6 (List.length (List.getD x0 q1 ([] : List Bool))) fun q9 => (f6 (List.set x0 q1 (List.set (List.getD x0 q1 ([] : List Bool)) q9 (List.getD (List.getD x0 q7 ([] : List Bool)) q8 false))) x3 x4 x5 x6)))) (wnR x6 (List.length (List.getD x0 q1 ([] : List Bool))) fun q10 => (f6 (List.set x0 q1 (List.set (List.getD x0 q1 ([] : List Bool)) q10 false)) x3 x4 x5 x6))))))))) (f7 x0 x3 x4 x5))
theorem e4 (k n1 n2 n4 : Nat) : u4 k n1 n2 (n4 + 1) = t4 (l6 k n1 n2 n4) (l7 k n1 n2) := by kernel_rfl
theorem g4 (k n1 n2 n4 : Nat) : l4 k n1 n2 (n4 + 1) = u4 k n1 n2 (n4 + 1) := funext fun _ => funext fun _ => funext fun _ => funext fun _ => funext fun _ => cut_u _ _ _
def p4 (k : Nat) (a1 : T1) (a2 : T2) : Nat → T4
  | 0 => fun _ _ _ _ _ => none
  | n4 + 1 => t4 (p6 k a1 a2 (p4 k a1 a2 n4)) (p7 k a1 a2)
theorem o4 (k n1 n2 : Nat) (a1 : T1) (a2 : T2) (h1 : l1 k n1 = a1) (h2 : l2 k n1 n2 = a2) : ∀ n4, l4 k n1 n2 n4 = p4 k a1 a2 n4 := by
  intro n4
  induction n4 with
  | zero => kernel_rfl
  | succ n4 ih => exact (Eq.trans (b := u4 k n1 n2 (n4 + 1)) (g4 k n1 n2 n4) (Eq.trans (b := t4 (l6 k n1 n2 n4) (l7 k n1 n2)) (e4 k n1 n2 n4) (Eq.trans (b := t4 (p6 k a1 a2 (p4 k a1 a2 n4)) (p7 k a1 a2)) (congr (congrArg t4 (o6 k n1 n2 n4 a1 a2 (p4 k a1 a2 n4) h1 h2 ih)) (o7 k n1 n2 a1 a2 h1 h2)) (by kernel_rfl))))
def t5 (f1 : T1) : T5 := fun x0 x3 x4 => (f1 x0 x3 (w64 (x4 + (1 : Int))))
theorem e5 (k n1 : Nat) : u5 k n1 = t5 (l1 k n1) := by kernel_rfl
theorem g5 (k n1 : Nat) : l5 k n1 = u5 k n1 := funext fun _ => funext fun _ => funext fun _ => cut_u _ _ _
def p5 (k : Nat) (a1 : T1) : T5 := t5 a1
theorem o5 (k n1 : Nat) (a1 : T1) (h1 : l1 k n1 = a1) : l5 k n1 = p5 k a1 := (Eq.trans (b := u5 k n1) (g5 k n1) (Eq.trans (b := t5 (l1 k n1)) (e5 k n1) (Eq.trans (b := t5 a1) (congrArg t5 h1) (by kernel_rfl))))
def t2 (f4 : T4) (f5 : T5) : T2 := fun x0 x3 x4 x5 => (iteB (decide (x5 < x3)) (f4 x0 x3 x4 x5 (0 : Int)) (f5 x0 x3 x4))
theorem e2 (k n1 n2 : Nat) : u2 k n1 (n2 + 1) = t2 (l4 k n1 n2 k) (l5 k n1) := by kernel_rfl
theorem g2 (k n1 n2 : Nat) : l2 k n1 (n2 + 1) = u2 k n1 (n2 + 1) := funext fun _ => funext fun _ => funext fun _ => funext fun _ => cut_u _ _ _
def p2 (k : Nat) (a1 : T1) : Nat → T2
  | 0 => fun _ _ _ _ => none
  | n2 + 1 => t2 (p4 k a1 (p2 k a1 n2) k) (p5 k a1)
theorem o2 (k n1 : Nat) (a1 : T1) (h1 : l1 k n1 = a1) : ∀ n2, l2 k n1 n2 = p2 k a1 n2 := by
  intro n2
  induction n2 with
  | zero => kernel_rfl
  | succ n2 ih => exact (Eq.trans (b := u2 k n1 (n2 + 1)) (g2 k n1 n2) (Eq.trans (b := t2 (l4 k n1 n2 k) (l5 k n1)) (e2 k n1 n2) (Eq.trans (b := t2 (p4 k a1 (p2 k a1 n2) k) (p5 k a1)) (congr (congrArg t2 (o4 k n1 n2 a1 (p2 k a1 n2) h1 ih k)) (o5 k n1 a1 h1)) (by kernel_rfl))))
def t3 : T3 := fun x0 => (some (x0, ()))
theorem e3 (k : Nat) : u3 k = t3 := by kernel_rfl
theorem g3 (k : Nat) : l3 k = u3 k := funext fun _ => cut_u _ _ _
def p3 (k : Nat) : T3 := t3
theorem o3 (k : Nat) : l3 k = p3 k := (Eq.trans (b := u3 k) (g3 k) (Eq.trans (b := t3) (e3 k) (by kernel_rfl)))
def t1 (f2 : T2) (f3 : T3) : T1 := fun x0 x3 x4 => (iteB (decide (x4 < x3)) (f2 x0 x3 x4 (0 : Int)) (f3 x0))
theorem e1 (k n1 : Nat) : u1 k (n1 + 1) = t1 (l2 k n1 k) (l3 k) := by kernel_rfl
theorem g1 (k n1 : Nat) : l1 k (n1 + 1) = u1 k (n1 + 1) := funext fun _ => funext fun _ => funext fun _ => cut_u _ _ _
def p1 (k : Nat) : Nat → T1
  | 0 => fun _ _ _ => none
  | n1 + 1 => t1 (p2 k (p1 k n1) k) (p3 k)
theorem o1 (k : Nat) : ∀ n1, l1 k n1 = p1 k n1 := by
  intro n1
  induction n1 with
  | zero => kernel_rfl
  | succ n1 ih => exact (Eq.trans (b := u1 k (n1 + 1)) (g1 k n1) (Eq.trans (b := t1 (l2 k n1 k) (l3 k)) (e1 k n1) (Eq.trans (b := t1 (p2 k (p1 k n1) k) (p3 k)) (congr (congrArg t1 (o2 k n1 (p1 k n1) ih k)) (o3 k)) (by kernel_rfl))))
def t0 (f1 : T1) : T0 := fun x0 => (f1 x0 ((List.length x0 : Nat) : Int) (0 : Int))
theorem e0 (k : Nat) : u0 k = t0 (l1 k k) := by kernel_rfl
def p0 (k : Nat) : T0 := t0 (p1 k k)
theorem o0 (k : Nat) : u0 k = p0 k := (Eq.trans (b := t0 (l1 k k)) (e0 k) (Eq.trans (b := t0 (p1 k k)) (congrArg t0 (o1 k k)) (by kernel_rfl)))
end Q4
def s_Q4 (a : (List (List Bool)) × Unit) : Option ((List (List Bool)) × Unit) := Q4.p0 fuel a.1
def F_Q4 : FSpec cx.toNm := { ps := [.own (.slice 76 (.slice 4 .bool)) (.own (.own .ro))], nres := 1, rt := (.slice 76 (.slice 4 .bool)), rm := (.own (.own .ro)), f := s_Q4 }
theorem w_Q4 (a : (List (List Bool)) × Unit) : runOf (S := cx) Q4.E Q4.h fuel Try.f51 F_Q4.ps F_Q4.rt F_Q4.rm a = F_Q4.f a := Eq.trans (b := Q4.u0 fuel a.1) (by kernel_rfl) (Eq.trans (b := Q4.p0 fuel a.1) (congrFun (Q4.o0 fuel) a.1) (by kernel_rfl))
theorem ok_Q4 : FnOk Try.prog F_Q4 51 := fn_of (hn := Q4.h) (E := Q4.E) cxOk (tysT _ _) fs_nil follows Try.func51 (by kernel_rfl) (fun a r h => ⟨fuel, Eq.trans (w_Q4 a) h⟩)
namespace Q5
def E : Env cx := { tys := tys, fs := fsOf [] }
abbrev R := Option ((List Bool) × Unit)
abbrev C := Exit → ST cx → R
noncomputable def b : Code := bodyC Try.f49
def h : Hint := { vs := [0, 1, 2, 4, 5, 6, 7, 8, 9, 10], nil := [(5, (.own .ro)), (14, (.own .ro))], cuts := [(3, ([1, 2, 5, 6], [2]), ([5], [])), (4, ([1, 2, 5, 6], [2]), ([1, 2, 5, 6], [2])), (6, ([1, 2, 5, 6, 7], [2]), ([1, 2, 5, 6], [2])), (7, ([1, 2, 5, 6, 7], [2]), ([1, 2, 5, 6, 7], [2])), (10, ([1, 2, 5, 6, 7, 8, 9], [2]), ([1, 2, 5, 6, 7, 8], [2])), (11, ([1, 2, 5, 6, 7, 8, 9], [2]), ([1, 2, 5, 6, 7, 8, 9], [2])), (14, ([1, 2, 5, 6, 7, 8], [2]), ([1, 2, 5, 6, 7], [2])), (16, ([5], []), ([5], []))], ret := ([4], [2]), ords := [] }
def K0 : C := fin (S := cx) E Try.f49.results.toList (.slice 4 .bool) .ro [] []
def c0 : Code := subC b [1]
def K1 (k : Nat) : C := outD h c0 K0
def c1 : Code := subC b [1, 1]
def K3 (k : Nat) : C := outD h c1 (K1 k)
def c2 : Code := subC b [1, 1, 1]
def K5 (k : Nat) : C := outD h c2 (K3 k)
def K6 (k : Nat) : C := seqC E h k c2 (K3 k)
def c3 : Code := subC b [1, 1, 0, 1]
def K7 (k : Nat) : C := outD h c3 (K6 k)
def K9 (k : Nat) : C := blockK 0 (K7 k)
def c4 : Code := subC b [1, 1, 0, 1, 0, 0]
def K10 (k n1 : Nat) : C := loopD E h k c4 (K9 k) n1
def c5 : Code := subC b [1, 1, 0, 1, 0, 0, 1]
def K11 (k n1 : Nat) : C := outD h c5 (K10 k n1)
def c7 : Code := subC b [1, 1, 0, 1, 0, 0, 1, 1]
def K15 (k n1 : Nat) : C := outD h c7 (K11 k n1)
def K16 (k n1 : Nat) : C := seqC E h k c7 (K11 k n1)
def K17 (k n1 : Nat) : C := blockK 1 (K16 k n1)
def c8 : Code := subC b [1, 1, 0, 1, 0, 0, 1, 0, 0, 1]
def K18 (k n1 : Nat) : C := outD h c8 (K17 k n1)
def K20 (k n1 : Nat) : C := blockK 2 (K18 k n1)
def c9 : Code := subC b [1, 1, 0, 1, 0, 0, 1, 0, 0, 1, 0, 0]
def K21 (k n1 n2 : Nat) : C := loopD E h k c9 (K20 k n1) n2
def c10 : Code := subC b [1, 1, 0, 1, 0, 0, 1, 0, 0, 1, 0, 0, 1]
def K22 (k n1 n2 : Nat) : C := outD h c10 (K21 k n1 n2)
def c12 : Code := subC b [1, 1, 0, 1, 0, 0, 1, 0, 0, 1, 0, 0, 1, 1]
def K26 (k n1 n2 : Nat) : C := outD h c12 (K22 k n1 n2)
def K27 (k n1 n2 : Nat) : C := seqC E h k c12 (K22 k n1 n2)
def K28 (k n1 n2 : Nat) : C := blockK 3 (K27 k n1 n2)
def c13 : Code := subC b [1, 1, 0, 1, 0, 0, 1, 0, 0, 1, 0, 0, 1, 0, 0, 1]
def K29 (k n1 n2 : Nat) : C := outD h c13 (K28 k n1 n2)
def c14 : Code := subC b [1, 1, 0, 1, 0, 0, 1, 0, 0, 1, 0, 0, 1, 0, 0, 1, 1]
def K31 (k n1 n2 : Nat) : C := outD h c14 (K29 k n1 n2)
def K32 (k n1 n2 : Nat) : C := seqC E h k c14 (K29 k n1 n2)
def c15 : Code := subC b [1, 1, 0, 1, 0, 0, 1, 0, 0, 1, 0, 0, 1, 0, 0, 1, 0, 1]
def K33 (k n1 n2 : Nat) : C := outD h c15 (K32 k n1 n2)
def K35 (k n1 n2 : Nat) : C := blockK 4 (K33 k n1 n2)
def c16 : Code := subC b [1, 1, 0, 1, 0, 0, 1, 0, 0, 1, 0, 0, 1, 0, 0, 1, 0, 1, 0, 0]
def K36 (k n1 n2 n4 : Nat) : C := loopD E h k c16 (K35 k n1 n2) n4
def c17 : Code := subC b [1, 1, 0, 1, 0, 0, 1, 0, 0, 1, 0, 0, 1, 0, 0, 1, 0, 1, 0, 0, 1]
def K37 (k n1 n2 n4 : Nat) : C := outD h c17 (K36 k n1 n2 n4)
def c19 : Code := subC b [1, 1, 0, 1, 0, 0, 1, 0, 0, 1, 0, 0, 1, 0, 0, 1, 0, 1, 0, 0, 1, 1]
def K41 (k n1 n2 n4 : Nat) : C := outD h c19 (K37 k n1 n2 n4)
abbrev T6 := Bool → (List Bool) → Int → Int → Bool → Int → D0 → R
abbrev T8 := Bool → (List Bool) → Int → Int → D0 → R
abbrev T7 := Bool → (List Bool) → Int → Int → Bool → D0 → R
abbrev T4 := Bool → (List Bool) → Int → Int → Bool → Int → D0 → R
abbrev T5 := Bool → (List Bool) → Int → D0 → R
abbrev T2 := Bool → (List Bool) → Int → Int → D0 → R
abbrev T3 := (List Bool) → R
abbrev T1 := Bool → (List Bool) → Int → D0 → R
abbrev T0 := D0 → Bool → R
abbrev s6 := fun x1 x5 x6 x7 x8 x9 m2 => (⟨[(1, .v .bool .ro x1), (2, .addr (.mem 2) []), (5, .v (.slice 4 .bool) (.own .ro) x5), (6, .v (.int .i64) .ro x6), (7, .v (.int .i64) .ro x7), (8, .v .bool .ro x8), (9, .v (.int .i64) .ro x9)], [], [(2, ⟨ty0, .ro, m2⟩)]⟩ : ST cx)
def u6 (k n1 n2 n4 : Nat) : T6 := fun x1 x5 x6 x7 x8 x9 m2 => uK (run E h k c19) (s6 x1 x5 x6 x7 x8 x9 m2) (K41 k n1 n2 n4)
abbrev l6 (k n1 n2 n4 : Nat) : T6 := fun x1 x5 x6 x7 x8 x9 m2 => cutK (run E h k c19) (s6 x1 x5 x6 x7 x8 x9 m2) (K41 k n1 n2 n4)
abbrev s8 := fun x1 x5 x6 x7 m2 => (⟨[(1, .v .bool .ro x1), (2, .addr (.mem 2) []), (5, .v (.slice 4 .bool) (.own .ro) x5), (6, .v (.int .i64) .ro x6), (7, .v (.int .i64) .ro x7)], [], [(2, ⟨ty0, .ro, m2⟩)]⟩ : ST cx)
def u8 (k n1 n2 : Nat) : T8 := fun x1 x5 x6 x7 m2 => uK (run E h k c12) (s8 x1 x5 x6 x7 m2) (K26 k n1 n2)
abbrev l8 (k n1 n2 : Nat) : T8 := fun x1 x5 x6 x7 m2 => cutK (run E h k c12) (s8 x1 x5 x6 x7 m2) (K26 k n1 n2)
abbrev s7 := fun x1 x5 x6 x7 x8 m2 => (⟨[(1, .v .bool .ro x1), (2, .addr (.mem 2) []), (5, .v (.slice 4 .bool) (.own .ro) x5), (6, .v (.int .i64) .ro x6), (7, .v (.int .i64) .ro x7), (8, .v .bool .ro x8)], [], [(2, ⟨ty0, .ro, m2⟩)]⟩ : ST cx)
def u7 (k n1 n2 : Nat) : T7 := fun x1 x5 x6 x7 x8 m2 => uK (run E h k c14) (s7 x1 x5 x6 x7 x8 m2) (K31 k n1 n2)
abbrev l7 (k n1 n2 : Nat) : T7 := fun x1 x5 x6 x7 x8 m2 => cutK (run E h k c14) (s7 x1 x5 x6 x7 x8 m2) (K31 k n1 n2)
abbrev s4 := fun x1 x5 x6 x7 x8 x9 m2 => (⟨[(1, .v .bool .ro x1), (2, .addr (.mem 2) []), (5, .v (.slice 4 .bool) (.own .ro) x5), (6, .v (.int .i64) .ro x6), (7, .v (.int .i64) .ro x7), (8, .v .bool .ro x8), (9, .v (.int .i64) .ro x9)], [], [(2, ⟨ty0, .ro, m2⟩)]⟩ : ST cx)
def u4 (k n1 n2 n4 : Nat) : T4 := fun x1 x5 x6 x7 x8 x9 m2 => uK (loopL E h k c16 (K35 k n1 n2) n4) (s4 x1 x5 x6 x7 x8 x9 m2) ()
abbrev l4 (k n1 n2 n4 : Nat) : T4 := fun x1 x5 x6 x7 x8 x9 m2 => cutK (loopL E h k c16 (K35 k n1 n2) n4) (s4 x1 x5 x6 x7 x8 x9 m2) ()
abbrev s5 := fun x1 x5 x6 m2 => (⟨[(1, .v .bool .ro x1), (2, .addr (.mem 2) []), (5, .v (.slice 4 .bool) (.own .ro) x5), (6, .v (.int .i64) .ro x6)], [], [(2, ⟨ty0, .ro, m2⟩)]⟩ : ST cx)
def u5 (k n1 : Nat) : T5 := fun x1 x5 x6 m2 => uK (run E h k c7) (s5 x1 x5 x6 m2) (K15 k n1)
abbrev l5 (k n1 : Nat) : T5 := fun x1 x5 x6 m2 => cutK (run E h k c7) (s5 x1 x5 x6 m2) (K15 k n1)
abbrev s2 := fun x1 x5 x6 x7 m2 => (⟨[(1, .v .bool .ro x1), (2, .addr (.mem 2) []), (5, .v (.slice 4 .bool) (.own .ro) x5), (6, .v (.int .i64) .ro x6), (7, .v (.int .i64) .ro x7)], [], [(2, ⟨ty0, .ro, m2⟩)]⟩ : ST cx)
def u2 (k n1 n2 : Nat) : T2 := fun x1 x5 x6 x7 m2 => uK (loopL E h k c9 (K20 k n1) n2) (s2 x1 x5 x6 x7 m2) ()
abbrev l2 (k n1 n2 : Nat) : T2 := fun x1 x5 x6 x7 m2 => cutK (loopL E h k c9 (K20 k n1) n2) (s2 x1 x5 x6 x7 m2) ()
abbrev s3 := fun x5 => (⟨[(5, .v (.slice 4 .bool) (.own .ro) x5)], [], []⟩ : ST cx)
def u3 (k : Nat) : T3 := fun x5 => uK (run E h k c2) (s3 x5) (K5 k)
abbrev l3 (k : Nat) : T3 := fun x5 => cutK (run E h k c2) (s3 x5) (K5 k)
abbrev s1 := fun x1 x5 x6 m2 => (⟨[(1, .v .bool .ro x1), (2, .addr (.mem 2) []), (5, .v (.slice 4 .bool) (.own .ro) x5), (6, .v (.int .i64) .ro x6)], [], [(2, ⟨ty0, .ro, m2⟩)]⟩ : ST cx)
def u1 (k n1 : Nat) : T1 := fun x1 x5 x6 m2 => uK (loopL E h k c4 (K9 k) n1) (s1 x1 x5 x6 m2) ()
abbrev l1 (k n1 : Nat) : T1 := fun x1 x5 x6 m2 => cutK (loopL E h k c4 (K9 k) n1) (s1 x1 x5 x6 m2) ()
def u0 (k : Nat) : T0 := fun x0 x1 => runOf (S := cx) E h k Try.f49 [.val ty0, .val .bool] (.slice 4 .bool) .ro (x0, x1, ())
def t6 (f4 : T4) : T6 := fun x1 x5 x6 x7 x8 x9 m2 => (f4 x1 x5 x6 x7 x8 (w64 (x9 + (1 : Int))) m2)
theorem e6 (k n1 n2 n4 : Nat) : u6 k n1 n2 n4 = t6 (l4 k n1 n2 n4) := by kernel_rfl
theorem g6 (k n1 n2 n4 : Nat) : l6 k n1 n2 n4 = u6 k n1 n2 n4 := funext fun _ => funext fun _ => funext fun _ => funext fun _ => funext fun _ => funext fun _ => funext fun _ => cut_u _ _ _
def p6 (k : Nat) (a1 : T1) (a2 : T2) (a4 : T4) : T6 := t6 a4
theorem o6 (k n1 n2 n4 : Nat) (a1 : T1) (a2 : T2) (a4 : T4) (h1 : l1 k n1 = a1) (h2 : l2 k n1 n2 = a2) (h4 : l4 k n1 n2 n4 = a4) : l6 k n1 n2 n4 = p6 k a1 a2 a4 := (Eq.trans (b := u6 k n1 n2 n4) (g6 k n1 n2 n4) (Eq.trans (b := t6 (l4 k n1 n2 n4)) (e6 k n1 n2 n4) (Eq.trans (b := t6 a4) (congrArg t6 h4) (by kernel_rfl))))
def t8 (f2 : T2) : T8 := fun x1 x5 x6 x7 m2 => (f2 x1 x5 x6 (w64 (x7 + (1 : Int))) m2)
theorem e8 (k n1 n2 : Nat) : u8 k n1 n2 = t8 (l2 k n1 n2) := by kernel_rfl
theorem g8 (k n1 n2 : Nat) : l8 k n1 n2 = u8 k n1 n2 := funext fun _ => funext fun _ => funext fun _ => funext fun _ => funext fun _ => cut_u _ _ _
def p8 (k : Nat) (a1 : T1) (a2 : T2) : T8 := t8 a2
theorem o8 (k n1 n2 : Nat) (a1 : T1) (a2 : T2) (h1 : l1 k n1 = a1) (h2 : l2 k n1 n2 = a2) : l8 k n1 n2 = p8 k a1 a2 := (Eq.trans (b := u8 k n1 n2) (g8 k n1 n2) (Eq.trans (b := t8 (l2 k n1 n2)) (e8 k n1 n2) (Eq.trans (b := t8 a2) (congrArg t8 h2) (by kernel_rfl))))
def t7 (f8 : T8) : T7 := fun x1 x5 x6 x7 x8 m2 => (iteB x8 (wnR x7 (List.length m2.2.2.2.1) fun q5 => (wnR ((List.getD m2.2.2.2.1 q5 ((0 : Int), ([] : List Int))).1) (List.length x5) fun q6 => (f8 x1 (List.set x5 q6 true) x6 x7 m2))) (f8 x1 x5 x6 x7 m2))
theorem e7 (k n1 n2 : Nat) : u7 k n1 n2 = t7 (l8 k n1 n2) := by kernel_rfl
theorem g7 (k n1 n2 : Nat) : l7 k n1 n2 = u7 k n1 n2 := funext fun _ => funext fun _ => funext fun _ => funext fun _ => funext fun _ => funext fun _ => cut_u _ _ _
def p7 (k : Nat) (a1 : T1) (a2 : T2) : T7 := t7 (p8 k a1 a2)
theorem o7 (k n1 n2 : Nat) (a1 : T1) (a2 : T2) (h1 : l1 k n1 = a1) (h2 : l2 k n1 n2 = a2) : l7 k n1 n2 = p7 k a1 a2 := (Eq.trans (b := u7 k n1 n2) (g7 k n1 n2) (Eq.trans (b := t7 (l8 k n1 n2)) (e7 k n1 n2) (Eq.trans (b := t7 (p8 k a1 a2)) (congrArg t7 (o8 k n1 n2 a1 a2 h1 h2)) (by kernel_rfl))))
def t4 (f6 : T6) (f7 : T7) : T4 := fun x1 x5 x6 x7 x8 x9 m2 => (wnR x7 (List.length m2.2.2.2.1) fun q1 => (iteB (decide (x9 < ((List.length (List.getD m2.2.2.2.1 q1 ((0 : Int), ([] : List Int))).2 : Nat) : Int))) (wnR x7 (List.length m2.2.2.2.1) fun q2 => (wnR x9 (List.length (List.getD m2.2.2.2.1 q2 ((0 : Int), ([] : List Int))).2) fun q3 => (iteB x8 (wnR (List.getD (List.getD m2.2.2.2.1 q2 ((0 : Int), ([] : List Int))).2 q3 (0 : Int)) (List.length x5) fun q4 => (iteB (List.getD x5 q4 false) (f6 x1 x5 x6 x7 true x9 m2) (iteB x1 (f6 x1 x5 x6 x7 (decide ((List.getD (List.getD m2.2.2.2.1 q2 ((0 : Int), ([] : List Int))).2 q3 (0 : Int)) < m2.2.1)) x9 m2) (f6 x1 x5 x6 x7 false x9 m2)))) (f6 x1 x5 x6 x7 false x9 m2)))) (f7 x1 x5 x6 x7 x8 m2)))
theorem e4 (k n1 n2 n4 : Nat) : u4 k n1 n2 (n4 + 1) = t4 (l6 k n1 n2 n4) (l7 k n1 n2) := by kernel_rfl
theorem g4 (k n1 n2 n4 : Nat) : l4 k n1 n2 (n4 + 1) = u4 k n1 n2 (n4 + 1) := funext fun _ => funext fun _ => funext fun _ => funext fun _ => funext fun _ => funext fun _ => funext fun _ => cut_u _ _ _
def p4 (k : Nat) (a1 : T1) (a2 : T2) : Nat → T4
  | 0 => fun _ _ _ _ _ _ _ => none
  | n4 + 1 => t4 (p6 k a1 a2 (p4 k a1 a2 n4)) (p7 k a1 a2)
theorem o4 (k n1 n2 : Nat) (a1 : T1) (a2 : T2) (h1 : l1 k n1 = a1) (h2 : l2 k n1 n2 = a2) : ∀ n4, l4 k n1 n2 n4 = p4 k a1 a2 n4 := by
  intro n4
  induction n4 with
  | zero => kernel_rfl
  | succ n4 ih => exact (Eq.trans (b := u4 k n1 n2 (n4 + 1)) (g4 k n1 n2 n4) (Eq.trans (b := t4 (l6 k n1 n2 n4) (l7 k n1 n2)) (e4 k n1 n2 n4) (Eq.trans (b := t4 (p6 k a1 a2 (p4 k a1 a2 n4)) (p7 k a1 a2)) (congr (congrArg t4 (o6 k n1 n2 n4 a1 a2 (p4 k a1 a2 n4) h1 h2 ih)) (o7 k n1 n2 a1 a2 h1 h2)) (by kernel_rfl))))
def t5 (f1 : T1) : T5 := fun x1 x5 x6 m2 => (f1 x1 x5 (w64 (x6 + (1 : Int))) m2)
theorem e5 (k n1 : Nat) : u5 k n1 = t5 (l1 k n1) := by kernel_rfl
theorem g5 (k n1 : Nat) : l5 k n1 = u5 k n1 := funext fun _ => funext fun _ => funext fun _ => funext fun _ => cut_u _ _ _
def p5 (k : Nat) (a1 : T1) : T5 := t5 a1
theorem o5 (k n1 : Nat) (a1 : T1) (h1 : l1 k n1 = a1) : l5 k n1 = p5 k a1 := (Eq.trans (b := u5 k n1) (g5 k n1) (Eq.trans (b := t5 (l1 k n1)) (e5 k n1) (Eq.trans (b := t5 a1) (congrArg t5 h1) (by kernel_rfl))))
def t2 (f4 : T4) (f5 : T5) : T2 := fun x1 x5 x6 x7 m2 => (iteB (decide (x7 < ((List.length m2.2.2.2.1 : Nat) : Int))) (f4 x1 x5 x6 x7 true (0 : Int) m2) (f5 x1 x5 x6 m2))
theorem e2 (k n1 n2 : Nat) : u2 k n1 (n2 + 1) = t2 (l4 k n1 n2 k) (l5 k n1) := by kernel_rfl
theorem g2 (k n1 n2 : Nat) : l2 k n1 (n2 + 1) = u2 k n1 (n2 + 1) := funext fun _ => funext fun _ => funext fun _ => funext fun _ => funext fun _ => cut_u _ _ _
def p2 (k : Nat) (a1 : T1) : Nat → T2
  | 0 => fun _ _ _ _ _ => none
  | n2 + 1 => t2 (p4 k a1 (p2 k a1 n2) k) (p5 k a1)
theorem o2 (k n1 : Nat) (a1 : T1) (h1 : l1 k n1 = a1) : ∀ n2, l2 k n1 n2 = p2 k a1 n2 := by
  intro n2
  induction n2 with
  | zero => kernel_rfl
  | succ n2 ih => exact (Eq.trans (b := u2 k n1 (n2 + 1)) (g2 k n1 n2) (Eq.trans (b := t2 (l4 k n1 n2 k) (l5 k n1)) (e2 k n1 n2) (Eq.trans (b := t2 (p4 k a1 (p2 k a1 n2) k) (p5 k a1)) (congr (congrArg t2 (o4 k n1 n2 a1 (p2 k a1 n2) h1 ih k)) (o5 k n1 a1 h1)) (by kernel_rfl))))
def t3 : T3 := fun x5 => (some (x5, ()))
theorem e3 (k : Nat) : u3 k = t3 := by kernel_rfl
theorem g3 (k : Nat) : l3 k = u3 k := funext fun _ => cut_u _ _ _
def p3 (k : Nat) : T3 := t3
theorem o3 (k : Nat) : l3 k = p3 k := (Eq.trans (b := u3 k) (g3 k) (Eq.trans (b := t3) (e3 k) (by kernel_rfl)))
def t1 (f2 : T2) (f3 : T3) : T1 := fun x1 x5 x6 m2 => (iteB (decide (x6 ≤ ((List.length m2.1 : Nat) : Int))) (f2 x1 x5 x6 (0 : Int) m2) (f3 x5))
theorem e1 (k n1 : Nat) : u1 k (n1 + 1) = t1 (l2 k n1 k) (l3 k) := by kernel_rfl
theorem g1 (k n1 : Nat) : l1 k (n1 + 1) = u1 k (n1 + 1) := funext fun _ => funext fun _ => funext fun _ => funext fun _ => cut_u _ _ _
def p1 (k : Nat) : Nat → T1
  | 0 => fun _ _ _ _ => none
  | n1 + 1 => t1 (p2 k (p1 k n1) k) (p3 k)
theorem o1 (k : Nat) : ∀ n1, l1 k n1 = p1 k n1 := by
  intro n1
  induction n1 with
  | zero => kernel_rfl
  | succ n1 ih => exact (Eq.trans (b := u1 k (n1 + 1)) (g1 k n1) (Eq.trans (b := t1 (l2 k n1 k) (l3 k)) (e1 k n1) (Eq.trans (b := t1 (p2 k (p1 k n1) k) (p3 k)) (congr (congrArg t1 (o2 k n1 (p1 k n1) ih k)) (o3 k)) (by kernel_rfl))))
def t0 (f1 : T1) : T0 := fun x0 x1 => (mustR (decide (((List.length x0.1 : Nat) : Int) = ((List.length x0.1 : Nat) : Int) ∧ (0 : Int) ≤ ((List.length x0.1 : Nat) : Int) ∧ ((List.length x0.1 : Nat) : Int) ≤ (16777216 : Int))) (f1 x1 (List.replicate (Int.toNat ((List.length x0.1 : Nat) : Int)) false) (0 : Int) x0))
theorem e0 (k : Nat) : u0 k = t0 (l1 k k) := by kernel_rfl
def p0 (k : Nat) : T0 := t0 (p1 k k)
theorem o0 (k : Nat) : u0 k = p0 k := (Eq.trans (b := t0 (l1 k k)) (e0 k) (Eq.trans (b := t0 (p1 k k)) (congrArg t0 (o1 k k)) (by kernel_rfl)))
end Q5
def s_Q5 (a : D0 × (Bool × Unit)) : Option ((List Bool) × Unit) := Q5.p0 fuel a.1 a.2.1
def F_Q5 : FSpec cx.toNm := { ps := [.val ty0, .val .bool], nres := 1, rt := (.slice 4 .bool), rm := .ro, f := s_Q5 }
theorem w_Q5 (a : D0 × (Bool × Unit)) : runOf (S := cx) Q5.E Q5.h fuel Try.f49 F_Q5.ps F_Q5.rt F_Q5.rm a = F_Q5.f a := Eq.trans (b := Q5.u0 fuel a.1 a.2.1) (by kernel_rfl) (Eq.trans (b := Q5.p0 fuel a.1 a.2.1) (congrFun (congrFun (Q5.o0 fuel) a.1) a.2.1) (by kernel_rfl))
theorem ok_Q5 : FnOk Try.prog F_Q5 49 := fn_of (hn := Q5.h) (E := Q5.E) cxOk (tysT _ _) fs_nil follows Try.func49 (by kernel_rfl) (fun a r h => ⟨fuel, Eq.trans (w_Q5 a) h⟩)
namespace Q6
def E : Env cx := { tys := tys, fs := fsOf [] }
abbrev R := Option ((List (List Bool)) × Unit)
abbrev C := Exit → ST cx → R
noncomputable def b : Code := bodyC Try.f50
def h : Hint := { vs := [0, 2, 3, 4], nil := [(3, (.own (.own .ro))), (13, (.own (.own .ro))), (12, (.own .ro)), (2, (.own (.own .ro)))], cuts := [(3, ([0, 3, 4], []), ([3], [])), (6, ([3], []), ([3], []))], ret := ([2], []), ords := [] }
def K0 : C := fin (S := cx) E Try.f50.results.toList (.slice 76 (.slice 4 .bool)) (.own (.own .ro)) [] []
def c0 : Code := subC b [1]
def K1 (k : Nat) : C := outD h c0 K0
def c1 : Code := subC b [1, 1]
def K3 (k : Nat) : C := outD h c1 (K1 k)
def c2 : Code := subC b [1, 1, 1]
def K5 (k : Nat) : C := outD h c2 (K3 k)
def K6 (k : Nat) : C := seqC E h k c2 (K3 k)
def c3 : Code := subC b [1, 1, 0, 1]
def K7 (k : Nat) : C := outD h c3 (K6 k)
def K9 (k : Nat) : C := blockK 0 (K7 k)
def c4 : Code := subC b [1, 1, 0, 1, 0, 0]
abbrev T2 := (List (List Bool)) → R
abbrev T1 := Int → (List (List Bool)) → Int → R
abbrev T0 := Int → R
abbrev s2 := fun x3 => (⟨[(3, .v (.slice 76 (.slice 4 .bool)) (.own (.own .ro)) x3)], [], []⟩ : ST cx)
def u2 (k : Nat) : T2 := fun x3 => uK (run E h k c2) (s2 x3) (K5 k)
abbrev l2 (k : Nat) : T2 := fun x3 => cutK (run E h k c2) (s2 x3) (K5 k)
abbrev s1 := fun x0 x3 x4 => (⟨[(0, .v (.int .i64) .ro x0), (3, .v (.slice 76 (.slice 4 .bool)) (.own (.own .ro)) x3), (4, .v (.int .i64) .ro x4)], [], []⟩ : ST cx)
def u1 (k n1 : Nat) : T1 := fun x0 x3 x4 => uK (loopL E h k c4 (K9 k) n1) (s1 x0 x3 x4) ()
abbrev l1 (k n1 : Nat) : T1 := fun x0 x3 x4 => cutK (loopL E h k c4 (K9 k) n1) (s1 x0 x3 x4) ()
def u0 (k : Nat) : T0 := fun x0 => runOf (S := cx) E h k Try.f50 [.val (.int .i64)] (.slice 76 (.slice 4 .bool)) (.own (.own .ro)) (x0, ())
def t2 : T2 := fun x3 => (some (x3, ()))
theorem e2 (k : Nat) : u2 k = t2 := by kernel_rfl
theorem g2 (k : Nat) : l2 k = u2 k := funext fun _ => cut_u _ _ _
def p2 (k : Nat) : T2 := t2
theorem o2 (k : Nat) : l2 k = p2 k := (Eq.trans (b := u2 k) (g2 k) (Eq.trans (b := t2) (e2 k) (by kernel_rfl)))
def t1 (f1 : T1) (f2 : T2) : T1 := fun x0 x3 x4 => (iteB (decide (x4 < x0)) (mustR (decide (x0 = x0 ∧ (0 : Int) ≤ x0 ∧ x0 ≤ (16777216 : Int))) (mustR (room x3 ([(List.replicate (Int.toNat x0) false)] : List (List Bool))) (f1 x0 (x3 ++ ([(List.replicate (Int.toNat x0) false)] : List (List Bool))) (w64 (x4 + (1 : Int)))))) (f2 x3))
theorem e1 (k n1 : Nat) : u1 k (n1 + 1) = t1 (l1 k n1) (l2 k) := by kernel_rfl
theorem g1 (k n1 : Nat) : l1 k (n1 + 1) = u1 k (n1 + 1) := funext fun _ => funext fun _ => funext fun _ => cut_u _ _ _
def p1 (k : Nat) : Nat → T1
  | 0 => fun _ _ _ => none
  | n1 + 1 => t1 (p1 k n1) (p2 k)
theorem o1 (k : Nat) : ∀ n1, l1 k n1 = p1 k n1 := by
  intro n1
  induction n1 with
  | zero => kernel_rfl
  | succ n1 ih => exact (Eq.trans (b := u1 k (n1 + 1)) (g1 k n1) (Eq.trans (b := t1 (l1 k n1) (l2 k)) (e1 k n1) (Eq.trans (b := t1 (p1 k n1) (p2 k)) (congr (congrArg t1 ih) (o2 k)) (by kernel_rfl))))
def t0 (f1 : T1) : T0 := fun x0 => (f1 x0 ([] : List (List Bool)) (0 : Int))
theorem e0 (k : Nat) : u0 k = t0 (l1 k k) := by kernel_rfl
def p0 (k : Nat) : T0 := t0 (p1 k k)
theorem o0 (k : Nat) : u0 k = p0 k := (Eq.trans (b := t0 (l1 k k)) (e0 k) (Eq.trans (b := t0 (p1 k k)) (congrArg t0 (o1 k k)) (by kernel_rfl)))
end Q6
def s_Q6 (a : Int × Unit) : Option ((List (List Bool)) × Unit) := Q6.p0 fuel a.1
def F_Q6 : FSpec cx.toNm := { ps := [.val (.int .i64)], nres := 1, rt := (.slice 76 (.slice 4 .bool)), rm := (.own (.own .ro)), f := s_Q6 }
theorem w_Q6 (a : Int × Unit) : runOf (S := cx) Q6.E Q6.h fuel Try.f50 F_Q6.ps F_Q6.rt F_Q6.rm a = F_Q6.f a := Eq.trans (b := Q6.u0 fuel a.1) (by kernel_rfl) (Eq.trans (b := Q6.p0 fuel a.1) (congrFun (Q6.o0 fuel) a.1) (by kernel_rfl))
theorem ok_Q6 : FnOk Try.prog F_Q6 50 := fn_of (hn := Q6.h) (E := Q6.E) cxOk (tysT _ _) fs_nil follows Try.func50 (by kernel_rfl) (fun a r h => ⟨fuel, Eq.trans (w_Q6 a) h⟩)
namespace Q7
def E : Env cx := { tys := tys, fs := fsOf [(49, F_Q5), (50, F_Q6), (51, F_Q4)] }
abbrev R := Option (Bool × Unit)
abbrev C := Exit → ST cx → R
noncomputable def b : Code := bodyC Try.f33
def h : Hint := { vs := [0, 1, 2, 3, 4, 5, 6, 7], nil := [(4, (.own (.own .ro)))], cuts := [(4, ([1, 3, 4, 5], [1]), ([1, 3, 4], [1])), (5, ([1, 3, 4, 5], [1]), ([1, 3, 4, 5], [1])), (7, ([1, 3, 4, 5, 6], [1]), ([1, 3, 4, 5], [1])), (10, ([1, 3, 4], [1]), ([1, 3, 4], [1])), (12, ([1, 3, 4, 7], [1]), ([], [])), (13, ([1, 3, 4, 7], [1]), ([1, 3, 4, 7], [1])), (15, ([1, 3, 4, 7, 84], [1]), ([1, 3, 4, 7], [1])), (16, ([], []), ([], []))], ret := ([2], [1]), ords := [] }
def K0 : C := fin (S := cx) E Try.f33.results.toList .bool .ro [] []
def c0 : Code := subC b [1]
def K1 (k : Nat) : C := outD h c0 K0
def c1 : Code := subC b [1, 1]
def K3 (k : Nat) : C := outD h c1 (K1 k)
def c2 : Code := subC b [1, 1, 1]
def K5 (k : Nat) : C := outD h c2 (K3 k)
def c3 : Code := subC b [1, 1, 1, 1]
def K7 (k : Nat) : C := outD h c3 (K5 k)
def K8 (k : Nat) : C := seqC E h k c3 (K5 k)
def c4 : Code := subC b [1, 1, 1, 0, 1]
def K9 (k : Nat) : C := outD h c4 (K8 k)
def K11 (k : Nat) : C := blockK 0 (K9 k)
def c5 : Code := subC b [1, 1, 1, 0, 1, 0, 0]
def K12 (k n1 : Nat) : C := loopD E h k c5 (K11 k) n1
def c6 : Code := subC b [1, 1, 1, 0, 1, 0, 0, 1]
def K13 (k n1 : Nat) : C := outD h c6 (K12 k n1)
def c8 : Code := subC b [1, 1, 1, 0, 1, 0, 0, 1, 1]
def K17 (k n1 : Nat) : C := outD h c8 (K13 k n1)
def K18 (k n1 : Nat) : C := seqC E h k c8 (K13 k n1)
def K19 (k n1 : Nat) : C := blockK 1 (K18 k n1)
def c9 : Code := subC b [1, 1, 1, 0, 1, 0, 0, 1, 0, 0, 1]
def K20 (k n1 : Nat) : C := outD h c9 (K19 k n1)
def K22 (k n1 : Nat) : C := blockK 2 (K20 k n1)
def c10 : Code := subC b [1, 1, 1, 0, 1, 0, 0, 1, 0, 0, 1, 0, 0]
def c14 : Code := subC b [1, 1, 1, 1, 1]
def K31 (k : Nat) : C := outD h c14 (K7 k)
def c15 : Code := subC b [1, 1, 1, 1, 1, 1]
def K33 (k : Nat) : C := outD h c15 (K31 k)
def K34 (k : Nat) : C := seqC E h k c15 (K31 k)
def c16 : Code := subC b [1, 1, 1, 1, 1, 0, 1]
def K35 (k : Nat) : C := outD h c16 (K34 k)
def K37 (k : Nat) : C := blockK 4 (K35 k)
def c17 : Code := subC b [1, 1, 1, 1, 1, 0, 1, 0, 0]
def K38 (k n5 : Nat) : C := loopD E h k c17 (K37 k) n5
def c18 : Code := subC b [1, 1, 1, 1, 1, 0, 1, 0, 0, 1]
def K39 (k n5 : Nat) : C := outD h c18 (K38 k n5)
def c20 : Code := subC b [1, 1, 1, 1, 1, 0, 1, 0, 0, 1, 1]
def K43 (k n5 : Nat) : C := outD h c20 (K39 k n5)
def K44 (k n5 : Nat) : C := seqC E h k c20 (K39 k n5)
def K45 (k n5 : Nat) : C := blockK 5 (K44 k n5)
def c21 : Code := subC b [1, 1, 1, 1, 1, 0, 1, 0, 0, 1, 0, 0, 1]
def K46 (k n5 : Nat) : C := outD h c21 (K45 k n5)
abbrev T4 := (List Bool) → (List (List Bool)) → Int → D0 → R
abbrev T2 := (List Bool) → (List (List Bool)) → Int → Int → D0 → R
abbrev T8 := (List Bool) → (List (List Bool)) → Int → D0 → R
abbrev T6 := (List Bool) → (List (List Bool)) → Int → Bool → D0 → R
abbrev T7 := R
abbrev T5 := (List Bool) → (List (List Bool)) → Int → D0 → R
abbrev T3 := (List Bool) → (List (List Bool)) → D0 → R
abbrev T1 := (List Bool) → (List (List Bool)) → Int → D0 → R
abbrev T0 := D0 → R
abbrev s4 := fun x3 x4 x5 m1 => (⟨[(1, .addr (.mem 1) []), (3, .v (.slice 4 .bool) .ro x3), (4, .v (.slice 76 (.slice 4 .bool)) (.own (.own .ro)) x4), (5, .v (.int .i64) .ro x5)], [], [(1, ⟨ty0, .ro, m1⟩)]⟩ : ST cx)
def u4 (k n1 : Nat) : T4 := fun x3 x4 x5 m1 => uK (run E h k c8) (s4 x3 x4 x5 m1) (K17 k n1)
abbrev l4 (k n1 : Nat) : T4 := fun x3 x4 x5 m1 => cutK (run E h k c8) (s4 x3 x4 x5 m1) (K17 k n1)
abbrev s2 := fun x3 x4 x5 x6 m1 => (⟨[(1, .addr (.mem 1) []), (3, .v (.slice 4 .bool) .ro x3), (4, .v (.slice 76 (.slice 4 .bool)) (.own (.own .ro)) x4), (5, .v (.int .i64) .ro x5), (6, .v (.int .i64) .ro x6)], [], [(1, ⟨ty0, .ro, m1⟩)]⟩ : ST cx)
def u2 (k n1 n2 : Nat) : T2 := fun x3 x4 x5 x6 m1 => uK (loopL E h k c10 (K22 k n1) n2) (s2 x3 x4 x5 x6 m1) ()
abbrev l2 (k n1 n2 : Nat) : T2 := fun x3 x4 x5 x6 m1 => cutK (loopL E h k c10 (K22 k n1) n2) (s2 x3 x4 x5 x6 m1) ()
abbrev s8 := fun x3 x4 x7 m1 => (⟨[(1, .addr (.mem 1) []), (3, .v (.slice 4 .bool) .ro x3), (4, .v (.slice 76 (.slice 4 .bool)) (.own (.own .ro)) x4), (7, .v (.int .i64) .ro x7)], [], [(1, ⟨ty0, .ro, m1⟩)]⟩ : ST cx)
def u8 (k n5 : Nat) : T8 := fun x3 x4 x7 m1 => uK (run E h k c20) (s8 x3 x4 x7 m1) (K43 k n5)
abbrev l8 (k n5 : Nat) : T8 := fun x3 x4 x7 m1 => cutK (run E h k c20) (s8 x3 x4 x7 m1) (K43 k n5)
abbrev s6 := fun x3 x4 x7 x84 m1 => (⟨[(1, .addr (.mem 1) []), (3, .v (.slice 4 .bool) .ro x3), (4, .v (.slice 76 (.slice 4 .bool)) (.own (.own .ro)) x4), (7, .v (.int .i64) .ro x7), (84, .v .bool .ro x84)], [], [(1, ⟨ty0, .ro, m1⟩)]⟩ : ST cx)
def u6 (k n5 : Nat) : T6 := fun x3 x4 x7 x84 m1 => uK (run E h k c21) (s6 x3 x4 x7 x84 m1) (K46 k n5)
abbrev l6 (k n5 : Nat) : T6 := fun x3 x4 x7 x84 m1 => cutK (run E h k c21) (s6 x3 x4 x7 x84 m1) (K46 k n5)
abbrev s7 : ST cx := (⟨[], [], []⟩ : ST cx)
def u7 (k : Nat) : T7 := uK (run E h k c15) s7 (K33 k)
abbrev l7 (k : Nat) : T7 := cutK (run E h k c15) s7 (K33 k)
abbrev s5 := fun x3 x4 x7 m1 => (⟨[(1, .addr (.mem 1) []), (3, .v (.slice 4 .bool) .ro x3), (4, .v (.slice 76 (.slice 4 .bool)) (.own (.own .ro)) x4), (7, .v (.int .i64) .ro x7)], [], [(1, ⟨ty0, .ro, m1⟩)]⟩ : ST cx)
def u5 (k n5 : Nat) : T5 := fun x3 x4 x7 m1 => uK (loopL E h k c17 (K37 k) n5) (s5 x3 x4 x7 m1) ()
abbrev l5 (k n5 : Nat) : T5 := fun x3 x4 x7 m1 => cutK (loopL E h k c17 (K37 k) n5) (s5 x3 x4 x7 m1) ()
abbrev s3 := fun x3 x4 m1 => (⟨[(1, .addr (.mem 1) []), (3, .v (.slice 4 .bool) .ro x3), (4, .v (.slice 76 (.slice 4 .bool)) (.own (.own .ro)) x4)], [], [(1, ⟨ty0, .ro, m1⟩)]⟩ : ST cx)
def u3 (k : Nat) : T3 := fun x3 x4 m1 => uK (run E h k c3) (s3 x3 x4 m1) (K7 k)
abbrev l3 (k : Nat) : T3 := fun x3 x4 m1 => cutK (run E h k c3) (s3 x3 x4 m1) (K7 k)
abbrev s1 := fun x3 x4 x5 m1 => (⟨[(1, .addr (.mem 1) []), (3, .v (.slice 4 .bool) .ro x3), (4, .v (.slice 76 (.slice 4 .bool)) (.own (.own .ro)) x4), (5, .v (.int .i64) .ro x5)], [], [(1, ⟨ty0, .ro, m1⟩)]⟩ : ST cx)
def u1 (k n1 : Nat) : T1 := fun x3 x4 x5 m1 => uK (loopL E h k c5 (K11 k) n1) (s1 x3 x4 x5 m1) ()
abbrev l1 (k n1 : Nat) : T1 := fun x3 x4 x5 m1 => cutK (loopL E h k c5 (K11 k) n1) (s1 x3 x4 x5 m1) ()
def u0 (k : Nat) : T0 := fun x0 => runOf (S := cx) E h k Try.f33 [.val ty0] .bool .ro (x0, ())
def t4 (f1 : T1) : T4 := fun x3 x4 x5 m1 => (f1 x3 x4 (w64 (x5 + (1 : Int))) m1)
theorem e4 (k n1 : Nat) : u4 k n1 = t4 (l1 k n1) := by kernel_rfl
theorem g4 (k n1 : Nat) : l4 k n1 = u4 k n1 := funext fun _ => funext fun _ => funext fun _ => funext fun _ => cut_u _ _ _
def p4 (k : Nat) (a1 : T1) : T4 := t4 a1
theorem o4 (k n1 : Nat) (a1 : T1) (h1 : l1 k n1 = a1) : l4 k n1 = p4 k a1 := (Eq.trans (b := u4 k n1) (g4 k n1) (Eq.trans (b := t4 (l1 k n1)) (e4 k n1) (Eq.trans (b := t4 a1) (congrArg t4 h1) (by kernel_rfl))))
def t2 (f2 : T2) (f4 : T4) : T2 := fun x3 x4 x5 x6 m1 => (wnR x5 (List.length m1.2.2.2.1) fun q3 => (iteB (decide (x6 < ((List.length (List.getD m1.2.2.2.1 q3 ((0 : Int), ([] : List Int))).2 : Nat) : Int))) (wnR x5 (List.length m1.2.2.2.1) fun q4 => (wnR ((List.getD m1.2.2.2.1 q4 ((0 : Int), ([] : List Int))).1) (List.length x4) fun q5 => (wnR x5 (List.length m1.2.2.2.1) fun q6 => (wnR x6 (List.length (List.getD m1.2.2.2.1 q6 ((0 : Int), ([] : List Int))).2) fun q7 => (wnR (List.getD (List.getD m1.2.2.2.1 q6 ((0 : Int), ([] : List Int))).2 q7 (0 : Int)) (List.length (List.getD x4 q5 ([] : List Bool))) fun q8 => (f2 x3 (List.set x4 q5 (List.set (List.getD x4 q5 ([] : List Bool)) q8 true)) x5 (w64 (x6 + (1 : Int))) m1)))))) (f4 x3 x4 x5 m1)))
theorem e2 (k n1 n2 : Nat) : u2 k n1 (n2 + 1) = t2 (l2 k n1 n2) (l4 k n1) := by kernel_rfl
theorem g2 (k n1 n2 : Nat) : l2 k n1 (n2 + 1) = u2 k n1 (n2 + 1) := funext fun _ => funext fun _ => funext fun _ => funext fun _ => funext fun _ => cut_u _ _ _
def p2 (k : Nat) (a1 : T1) : Nat → T2
  | 0 => fun _ _ _ _ _ => none
  | n2 + 1 => t2 (p2 k a1 n2) (p4 k a1)
theorem o2 (k n1 : Nat) (a1 : T1) (h1 : l1 k n1 = a1) : ∀ n2, l2 k n1 n2 = p2 k a1 n2 := by
  intro n2
  induction n2 with
  | zero => kernel_rfl
  | succ n2 ih => exact (Eq.trans (b := u2 k n1 (n2 + 1)) (g2 k n1 n2) (Eq.trans (b := t2 (l2 k n1 n2) (l4 k n1)) (e2 k n1 n2) (Eq.trans (b := t2 (p2 k a1 n2) (p4 k a1)) (congr (congrArg t2 ih) (o4 k n1 a1 h1)) (by kernel_rfl))))
def t8 (f5 : T5) : T8 := fun x3 x4 x7 m1 => (f5 x3 x4 (w64 (x7 + (1 : Int))) m1)
theorem e8 (k n5 : Nat) : u8 k n5 = t8 (l5 k n5) := by kernel_rfl
theorem g8 (k n5 : Nat) : l8 k n5 = u8 k n5 := funext fun _ => funext fun _ => funext fun _ => funext fun _ => cut_u _ _ _
def p8 (k : Nat) (a5 : T5) : T8 := t8 a5
theorem o8 (k n5 : Nat) (a5 : T5) (h5 : l5 k n5 = a5) : l8 k n5 = p8 k a5 := (Eq.trans (b := u8 k n5) (g8 k n5) (Eq.trans (b := t8 (l5 k n5)) (e8 k n5) (Eq.trans (b := t8 a5) (congrArg t8 h5) (by kernel_rfl))))
def t6 (f8 : T8) : T6 := fun x3 x4 x7 x84 m1 => (iteB x84 (some (false, ())) (f8 x3 x4 x7 m1))
theorem e6 (k n5 : Nat) : u6 k n5 = t6 (l8 k n5) := by kernel_rfl
theorem g6 (k n5 : Nat) : l6 k n5 = u6 k n5 := funext fun _ => funext fun _ => funext fun _ => funext fun _ => funext fun _ => cut_u _ _ _
def p6 (k : Nat) (a5 : T5) : T6 := t6 (p8 k a5)
theorem o6 (k n5 : Nat) (a5 : T5) (h5 : l5 k n5 = a5) : l6 k n5 = p6 k a5 := (Eq.trans (b := u6 k n5) (g6 k n5) (Eq.trans (b := t6 (l8 k n5)) (e6 k n5) (Eq.trans (b := t6 (p8 k a5)) (congrArg t6 (o8 k n5 a5 h5)) (by kernel_rfl))))
def t7 : T7 := 
  (some (true, ()))
theorem e7 (k : Nat) : u7 k = t7 := by kernel_rfl
theorem g7 (k : Nat) : l7 k = u7 k := cut_u _ _ _
def p7 (k : Nat) : T7 := t7
theorem o7 (k : Nat) : l7 k = p7 k := (Eq.trans (b := u7 k) (g7 k) (Eq.trans (b := t7) (e7 k) (by kernel_rfl)))
def t5 (f6 : T6) (f7 : T7) : T5 := fun x3 x4 x7 m1 => (iteB (decide (x7 < ((List.length m1.1 : Nat) : Int))) (wnR x7 (List.length x3) fun q10 => (iteB (notB (List.getD x3 q10 false)) (f6 x3 x4 x7 true m1) (iteB (!decide (x7 = m1.2.2.1)) (wnR m1.2.2.1 (List.length x4) fun q11 => (wnR x7 (List.length (List.getD x4 q11 ([] : List Bool))) fun q12 => (f6 x3 x4 x7 (notB (List.getD (List.getD x4 q11 ([] : List Bool)) q12 false)) m1))) (f6 x3 x4 x7 false m1)))) f7)
theorem e5 (k n5 : Nat) : u5 k (n5 + 1) = t5 (l6 k n5) (l7 k) := by kernel_rfl
theorem g5 (k n5 : Nat) : l5 k (n5 + 1) = u5 k (n5 + 1) := funext fun _ => funext fun _ => funext fun _ => funext fun _ => cut_u _ _ _
def p5 (k : Nat) : Nat → T5
  | 0 => fun _ _ _ _ => none
  | n5 + 1 => t5 (p6 k (p5 k n5)) (p7 k)
theorem o5 (k : Nat) : ∀ n5, l5 k n5 = p5 k n5 := by
  intro n5
  induction n5 with
  | zero => kernel_rfl
  | succ n5 ih => exact (Eq.trans (b := u5 k (n5 + 1)) (g5 k n5) (Eq.trans (b := t5 (l6 k n5) (l7 k)) (e5 k n5) (Eq.trans (b := t5 (p6 k (p5 k n5)) (p7 k)) (congr (congrArg t5 (o6 k n5 (p5 k n5) ih)) (o7 k)) (by kernel_rfl))))
def t3 (f5 : T5) : T3 := fun x3 x4 m1 => (bindR (s_Q4 (x4, ())) fun r9 => (f5 x3 r9.1 (w64 (m1.2.1 + (1 : Int))) m1))
theorem e3 (k : Nat) : u3 k = t3 (l5 k k) := by kernel_rfl
theorem g3 (k : Nat) : l3 k = u3 k := funext fun _ => funext fun _ => funext fun _ => cut_u _ _ _
def p3 (k : Nat) : T3 := t3 (p5 k k)
theorem o3 (k : Nat) : l3 k = p3 k := (Eq.trans (b := u3 k) (g3 k) (Eq.trans (b := t3 (l5 k k)) (e3 k) (Eq.trans (b := t3 (p5 k k)) (congrArg t3 (o5 k k)) (by kernel_rfl))))
def t1 (f2 : T2) (f3 : T3) : T1 := fun x3 x4 x5 m1 => (iteB (decide (x5 < ((List.length m1.2.2.2.1 : Nat) : Int))) (f2 x3 x4 x5 (0 : Int) m1) (f3 x3 x4 m1))
theorem e1 (k n1 : Nat) : u1 k (n1 + 1) = t1 (l2 k n1 k) (l3 k) := by kernel_rfl
theorem g1 (k n1 : Nat) : l1 k (n1 + 1) = u1 k (n1 + 1) := funext fun _ => funext fun _ => funext fun _ => funext fun _ => cut_u _ _ _
def p1 (k : Nat) : Nat → T1
  | 0 => fun _ _ _ _ => none
  | n1 + 1 => t1 (p2 k (p1 k n1) k) (p3 k)
theorem o1 (k : Nat) : ∀ n1, l1 k n1 = p1 k n1 := by
  intro n1
  induction n1 with
  | zero => kernel_rfl
  | succ n1 ih => exact (Eq.trans (b := u1 k (n1 + 1)) (g1 k n1) (Eq.trans (b := t1 (l2 k n1 k) (l3 k)) (e1 k n1) (Eq.trans (b := t1 (p2 k (p1 k n1) k) (p3 k)) (congr (congrArg t1 (o2 k n1 (p1 k n1) ih k)) (o3 k)) (by kernel_rfl))))
def t0 (f1 : T1) : T0 := fun x0 => (bindR (s_Q5 (x0, (true, ()))) fun r1 => (bindR (s_Q6 (((List.length x0.1 : Nat) : Int), ())) fun r2 => (f1 r1.1 r2.1 (0 : Int) x0)))
theorem e0 (k : Nat) : u0 k = t0 (l1 k k) := by kernel_rfl
def p0 (k : Nat) : T0 := t0 (p1 k k)
theorem o0 (k : Nat) : u0 k = p0 k := (Eq.trans (b := t0 (l1 k k)) (e0 k) (Eq.trans (b := t0 (p1 k k)) (congrArg t0 (o1 k k)) (by kernel_rfl)))
end Q7
def s_Q7 (a : D0 × Unit) : Option (Bool × Unit) := Q7.p0 fuel a.1
def F_Q7 : FSpec cx.toNm := { ps := [.val ty0], nres := 1, rt := .bool, rm := .ro, f := s_Q7 }
theorem w_Q7 (a : D0 × Unit) : runOf (S := cx) Q7.E Q7.h fuel Try.f33 F_Q7.ps F_Q7.rt F_Q7.rm a = F_Q7.f a := Eq.trans (b := Q7.u0 fuel a.1) (by kernel_rfl) (Eq.trans (b := Q7.p0 fuel a.1) (congrFun (Q7.o0 fuel) a.1) (by kernel_rfl))
theorem ok_Q7 : FnOk Try.prog F_Q7 33 := fn_of (hn := Q7.h) (E := Q7.E) cxOk (tysT _ _) (fs_cons ok_Q5 (fs_cons ok_Q6 (fs_cons ok_Q4 fs_nil))) follows Try.func33 (by kernel_rfl) (fun a r h => ⟨fuel, Eq.trans (w_Q7 a) h⟩)
namespace Q8
def E : Env cx := { tys := tys, fs := fsOf [(33, F_Q7), (34, F_Q3)] }
abbrev R := Option (Bool × Unit)
abbrev C := Exit → ST cx → R
noncomputable def b : Code := bodyC Try.f12
def h : Hint := { vs := [0, 1, 2, 3, 4, 5, 6, 7], nil := [], cuts := [(3, ([1, 3, 57], [1]), ([1, 3], [1])), (4, ([1, 3], [1]), ([1, 3], [1])), (5, ([1, 3, 4], [1]), ([1], [1])), (6, ([1, 3, 4], [1]), ([1, 3, 4], [1])), (9, ([1, 3, 4, 5, 86], [1, 5]), ([1, 3, 4, 5], [1, 5])), (10, ([1, 3, 4, 5], [1, 5]), ([1, 3, 4], [1])), (11, ([1, 3, 4, 5, 6], [1, 5]), ([1, 3, 4], [1])), (12, ([1, 3, 4, 5, 6], [1, 5]), ([1, 3, 4, 5, 6], [1, 5])), (14, ([1, 3, 4, 5, 6, 118], [1, 5]), ([1, 3, 4, 5, 6], [1, 5])), (15, ([1], [1]), ([1], [1])), (18, ([1, 7], [1]), ([1], [1])), (19, ([1, 7], [1]), ([1, 7], [1])), (21, ([1, 7, 144], [1]), ([1, 7], [1])), (22, ([1], [1]), ([1], [1]))], ret := ([2], [1, 5]), ords := [] }
def K0 : C := fin (S := cx) E Try.f12.results.toList .bool .ro [] []
def c0 : Code := subC b [1]
def K1 (k : Nat) : C := outD h c0 K0
def c1 : Code := subC b [1, 1]
def K3 (k : Nat) : C := outD h c1 (K1 k)
def c2 : Code := subC b [1, 1, 1]
def K5 (k : Nat) : C := outD h c2 (K3 k)
def K6 (k : Nat) : C := seqC E h k c2 (K3 k)
def c3 : Code := subC b [1, 1, 0, 1]
def K7 (k : Nat) : C := outD h c3 (K6 k)
def c5 : Code := subC b [1, 1, 1, 1]
def K11 (k : Nat) : C := outD h c5 (K5 k)
def K12 (k : Nat) : C := seqC E h k c5 (K5 k)
def c6 : Code := subC b [1, 1, 1, 0, 1]
def K13 (k : Nat) : C := outD h c6 (K12 k)
def K15 (k : Nat) : C := blockK 0 (K13 k)
def c7 : Code := subC b [1, 1, 1, 0, 1, 0, 0]
def K16 (k n3 : Nat) : C := loopD E h k c7 (K15 k) n3
def c8 : Code := subC b [1, 1, 1, 0, 1, 0, 0, 1]
def K17 (k n3 : Nat) : C := outD h c8 (K16 k n3)
def c10 : Code := subC b [1, 1, 1, 0, 1, 0, 0, 1, 1]
def K21 (k n3 : Nat) : C := outD h c10 (K17 k n3)
def K22 (k n3 : Nat) : C := seqC E h k c10 (K17 k n3)
def K23 (k n3 : Nat) : C := blockK 1 (K22 k n3)
def c11 : Code := subC b [1, 1, 1, 0, 1, 0, 0, 1, 0, 0, 1]
def K24 (k n3 : Nat) : C := outD h c11 (K23 k n3)
def c12 : Code := subC b [1, 1, 1, 0, 1, 0, 0, 1, 0, 0, 1, 1]
def K26 (k n3 : Nat) : C := outD h c12 (K24 k n3)
def K27 (k n3 : Nat) : C := seqC E h k c12 (K24 k n3)
def c13 : Code := subC b [1, 1, 1, 0, 1, 0, 0, 1, 0, 0, 1, 0, 1]
def K28 (k n3 : Nat) : C := outD h c13 (K27 k n3)
def c15 : Code := subC b [1, 1, 1, 0, 1, 0, 0, 1, 0, 0, 1, 1, 1]
def K32 (k n3 : Nat) : C := outD h c15 (K26 k n3)
def K34 (k n3 : Nat) : C := blockK 2 (K32 k n3)
def c16 : Code := subC b [1, 1, 1, 0, 1, 0, 0, 1, 0, 0, 1, 1, 1, 0, 0]
def K35 (k n3 n7 : Nat) : C := loopD E h k c16 (K34 k n3) n7
def c17 : Code := subC b [1, 1, 1, 0, 1, 0, 0, 1, 0, 0, 1, 1, 1, 0, 0, 1]
def K36 (k n3 n7 : Nat) : C := outD h c17 (K35 k n3 n7)
def c19 : Code := subC b [1, 1, 1, 0, 1, 0, 0, 1, 0, 0, 1, 1, 1, 0, 0, 1, 1]
def K40 (k n3 n7 : Nat) : C := outD h c19 (K36 k n3 n7)
def K41 (k n3 n7 : Nat) : C := seqC E h k c19 (K36 k n3 n7)
def K42 (k n3 n7 : Nat) : C := blockK 3 (K41 k n3 n7)
def c20 : Code := subC b [1, 1, 1, 0, 1, 0, 0, 1, 0, 0, 1, 1, 1, 0, 0, 1, 0, 0, 1]
def K43 (k n3 n7 : Nat) : C := outD h c20 (K42 k n3 n7)
def c22 : Code := subC b [1, 1, 1, 1, 1]
def K47 (k : Nat) : C := outD h c22 (K11 k)
def c25 : Code := subC b [1, 1, 1, 1, 1, 1]
def K53 (k : Nat) : C := outD h c25 (K47 k)
def K54 (k : Nat) : C := seqC E h k c25 (K47 k)
def c26 : Code := subC b [1, 1, 1, 1, 1, 0, 1]
def K55 (k : Nat) : C := outD h c26 (K54 k)
def K57 (k : Nat) : C := blockK 4 (K55 k)
def c27 : Code := subC b [1, 1, 1, 1, 1, 0, 1, 0, 0]
def K58 (k n11 : Nat) : C := loopD E h k c27 (K57 k) n11
def c28 : Code := subC b [1, 1, 1, 1, 1, 0, 1, 0, 0, 1]
def K59 (k n11 : Nat) : C := outD h c28 (K58 k n11)
def c30 : Code := subC b [1, 1, 1, 1, 1, 0, 1, 0, 0, 1, 1]
def K63 (k n11 : Nat) : C := outD h c30 (K59 k n11)
def K64 (k n11 : Nat) : C := seqC E h k c30 (K59 k n11)
def K65 (k n11 : Nat) : C := blockK 5 (K64 k n11)
def c31 : Code := subC b [1, 1, 1, 1, 1, 0, 1, 0, 0, 1, 0, 0, 1]
def K66 (k n11 : Nat) : C := outD h c31 (K65 k n11)
abbrev T10 := Int → Int → Int → D0 → (Int × (List Int)) → R
abbrev T8 := Int → Int → Int → Bool → D0 → (Int × (List Int)) → R
abbrev T9 := Int → Int → D0 → R
abbrev T7 := Int → Int → Int → D0 → (Int × (List Int)) → R
abbrev T6 := Int → Int → D0 → (Int × (List Int)) → R
abbrev T4 := Int → Int → Bool → D0 → (Int × (List Int)) → R
abbrev T14 := Int → D0 → R
abbrev T12 := Int → Bool → D0 → R
abbrev T13 := D0 → R
abbrev T11 := Int → D0 → R
abbrev T5 := D0 → R
abbrev T3 := Int → Int → D0 → R
abbrev T2 := Int → D0 → R
abbrev T1 := Int → Bool → D0 → R
abbrev T0 := D0 → R
abbrev s10 := fun x3 x4 x6 m1 m5 => (⟨[(1, .addr (.mem 1) []), (3, .v (.int .i64) .ro x3), (4, .v (.int .i64) .ro x4), (5, .addr (.mem 5) []), (6, .v (.int .i64) .ro x6)], [], [(1, ⟨ty0, .ro, m1⟩), (5, ⟨(.agg (.pair (.int .i64) (.slice 3 (.int .i64)))), .ro, m5⟩)]⟩ : ST cx)
def u10 (k n3 n7 : Nat) : T10 := fun x3 x4 x6 m1 m5 => uK (run E h k c19) (s10 x3 x4 x6 m1 m5) (K40 k n3 n7)
abbrev l10 (k n3 n7 : Nat) : T10 := fun x3 x4 x6 m1 m5 => cutK (run E h k c19) (s10 x3 x4 x6 m1 m5) (K40 k n3 n7)
abbrev s8 := fun x3 x4 x6 x118 m1 m5 => (⟨[(1, .addr (.mem 1) []), (3, .v (.int .i64) .ro x3), (4, .v (.int .i64) .ro x4), (5, .addr (.mem 5) []), (6, .v (.int .i64) .ro x6), (118, .v .bool .ro x118)], [], [(1, ⟨ty0, .ro, m1⟩), (5, ⟨(.agg (.pair (.int .i64) (.slice 3 (.int .i64)))), .ro, m5⟩)]⟩ : ST cx)
def u8 (k n3 n7 : Nat) : T8 := fun x3 x4 x6 x118 m1 m5 => uK (run E h k c20) (s8 x3 x4 x6 x118 m1 m5) (K43 k n3 n7)
abbrev l8 (k n3 n7 : Nat) : T8 := fun x3 x4 x6 x118 m1 m5 => cutK (run E h k c20) (s8 x3 x4 x6 x118 m1 m5) (K43 k n3 n7)
abbrev s9 := fun x3 x4 m1 => (⟨[(1, .addr (.mem 1) []), (3, .v (.int .i64) .ro x3), (4, .v (.int .i64) .ro x4)], [], [(1, ⟨ty0, .ro, m1⟩)]⟩ : ST cx)
def u9 (k n3 : Nat) : T9 := fun x3 x4 m1 => uK (run E h k c10) (s9 x3 x4 m1) (K21 k n3)
abbrev l9 (k n3 : Nat) : T9 := fun x3 x4 m1 => cutK (run E h k c10) (s9 x3 x4 m1) (K21 k n3)
abbrev s7 := fun x3 x4 x6 m1 m5 => (⟨[(1, .addr (.mem 1) []), (3, .v (.int .i64) .ro x3), (4, .v (.int .i64) .ro x4), (5, .addr (.mem 5) []), (6, .v (.int .i64) .ro x6)], [], [(1, ⟨ty0, .ro, m1⟩), (5, ⟨(.agg (.pair (.int .i64) (.slice 3 (.int .i64)))), .ro, m5⟩)]⟩ : ST cx)
def u7 (k n3 n7 : Nat) : T7 := fun x3 x4 x6 m1 m5 => uK (loopL E h k c16 (K34 k n3) n7) (s7 x3 x4 x6 m1 m5) ()
abbrev l7 (k n3 n7 : Nat) : T7 := fun x3 x4 x6 m1 m5 => cutK (loopL E h k c16 (K34 k n3) n7) (s7 x3 x4 x6 m1 m5) ()
abbrev s6 := fun x3 x4 m1 m5 => (⟨[(1, .addr (.mem 1) []), (3, .v (.int .i64) .ro x3), (4, .v (.int .i64) .ro x4), (5, .addr (.mem 5) [])], [], [(1, ⟨ty0, .ro, m1⟩), (5, ⟨(.agg (.pair (.int .i64) (.slice 3 (.int .i64)))), .ro, m5⟩)]⟩ : ST cx)
def u6 (k n3 : Nat) : T6 := fun x3 x4 m1 m5 => uK (run E h k c12) (s6 x3 x4 m1 m5) (K26 k n3)
abbrev l6 (k n3 : Nat) : T6 := fun x3 x4 m1 m5 => cutK (run E h k c12) (s6 x3 x4 m1 m5) (K26 k n3)
abbrev s4 := fun x3 x4 x86 m1 m5 => (⟨[(1, .addr (.mem 1) []), (3, .v (.int .i64) .ro x3), (4, .v (.int .i64) .ro x4), (5, .addr (.mem 5) []), (86, .v .bool .ro x86)], [], [(1, ⟨ty0, .ro, m1⟩), (5, ⟨(.agg (.pair (.int .i64) (.slice 3 (.int .i64)))), .ro, m5⟩)]⟩ : ST cx)
def u4 (k n3 : Nat) : T4 := fun x3 x4 x86 m1 m5 => uK (run E h k c13) (s4 x3 x4 x86 m1 m5) (K28 k n3)
abbrev l4 (k n3 : Nat) : T4 := fun x3 x4 x86 m1 m5 => cutK (run E h k c13) (s4 x3 x4 x86 m1 m5) (K28 k n3)
abbrev s14 := fun x7 m1 => (⟨[(1, .addr (.mem 1) []), (7, .v (.int .i64) .ro x7)], [], [(1, ⟨ty0, .ro, m1⟩)]⟩ : ST cx)
def u14 (k n11 : Nat) : T14 := fun x7 m1 => uK (run E h k c30) (s14 x7 m1) (K63 k n11)
abbrev l14 (k n11 : Nat) : T14 := fun x7 m1 => cutK (run E h k c30) (s14 x7 m1) (K63 k n11)
abbrev s12 := fun x7 x144 m1 => (⟨[(1, .addr (.mem 1) []), (7, .v (.int .i64) .ro x7), (144, .v .bool .ro x144)], [], [(1, ⟨ty0, .ro, m1⟩)]⟩ : ST cx)
def u12 (k n11 : Nat) : T12 := fun x7 x144 m1 => uK (run E h k c31) (s12 x7 x144 m1) (K66 k n11)
abbrev l12 (k n11 : Nat) : T12 := fun x7 x144 m1 => cutK (run E h k c31) (s12 x7 x144 m1) (K66 k n11)
abbrev s13 := fun m1 => (⟨[(1, .addr (.mem 1) [])], [], [(1, ⟨ty0, .ro, m1⟩)]⟩ : ST cx)
def u13 (k : Nat) : T13 := fun m1 => uK (run E h k c25) (s13 m1) (K53 k)
abbrev l13 (k : Nat) : T13 := fun m1 => cutK (run E h k c25) (s13 m1) (K53 k)
abbrev s11 := fun x7 m1 => (⟨[(1, .addr (.mem 1) []), (7, .v (.int .i64) .ro x7)], [], [(1, ⟨ty0, .ro, m1⟩)]⟩ : ST cx)
def u11 (k n11 : Nat) : T11 := fun x7 m1 => uK (loopL E h k c27 (K57 k) n11) (s11 x7 m1) ()
abbrev l11 (k n11 : Nat) : T11 := fun x7 m1 => cutK (loopL E h k c27 (K57 k) n11) (s11 x7 m1) ()
abbrev s5 := fun m1 => (⟨[(1, .addr (.mem 1) [])], [], [(1, ⟨ty0, .ro, m1⟩)]⟩ : ST cx)
def u5 (k : Nat) : T5 := fun m1 => uK (run E h k c5) (s5 m1) (K11 k)
abbrev l5 (k : Nat) : T5 := fun m1 => cutK (run E h k c5) (s5 m1) (K11 k)
abbrev s3 := fun x3 x4 m1 => (⟨[(1, .addr (.mem 1) []), (3, .v (.int .i64) .ro x3), (4, .v (.int .i64) .ro x4)], [], [(1, ⟨ty0, .ro, m1⟩)]⟩ : ST cx)
def u3 (k n3 : Nat) : T3 := fun x3 x4 m1 => uK (loopL E h k c7 (K15 k) n3) (s3 x3 x4 m1) ()
abbrev l3 (k n3 : Nat) : T3 := fun x3 x4 m1 => cutK (loopL E h k c7 (K15 k) n3) (s3 x3 x4 m1) ()
abbrev s2 := fun x3 m1 => (⟨[(1, .addr (.mem 1) []), (3, .v (.int .i64) .ro x3)], [], [(1, ⟨ty0, .ro, m1⟩)]⟩ : ST cx)
def u2 (k : Nat) : T2 := fun x3 m1 => uK (run E h k c2) (s2 x3 m1) (K5 k)
abbrev l2 (k : Nat) : T2 := fun x3 m1 => cutK (run E h k c2) (s2 x3 m1) (K5 k)
abbrev s1 := fun x3 x57 m1 => (⟨[(1, .addr (.mem 1) []), (3, .v (.int .i64) .ro x3), (57, .v .bool .ro x57)], [], [(1, ⟨ty0, .ro, m1⟩)]⟩ : ST cx)
def u1 (k : Nat) : T1 := fun x3 x57 m1 => uK (run E h k c3) (s1 x3 x57 m1) (K7 k)
abbrev l1 (k : Nat) : T1 := fun x3 x57 m1 => cutK (run E h k c3) (s1 x3 x57 m1) (K7 k)
def u0 (k : Nat) : T0 := fun x0 => runOf (S := cx) E h k Try.f12 [.val ty0] .bool .ro (x0, ())
def t10 (f7 : T7) : T10 := fun x3 x4 x6 m1 m5 => (f7 x3 x4 (w64 (x6 + (1 : Int))) m1 m5)
theorem e10 (k n3 n7 : Nat) : u10 k n3 n7 = t10 (l7 k n3 n7) := by kernel_rfl
theorem g10 (k n3 n7 : Nat) : l10 k n3 n7 = u10 k n3 n7 := funext fun _ => funext fun _ => funext fun _ => funext fun _ => funext fun _ => cut_u _ _ _
def p10 (k : Nat) (a3 : T3) (a7 : T7) : T10 := t10 a7
theorem o10 (k n3 n7 : Nat) (a3 : T3) (a7 : T7) (h3 : l3 k n3 = a3) (h7 : l7 k n3 n7 = a7) : l10 k n3 n7 = p10 k a3 a7 := (Eq.trans (b := u10 k n3 n7) (g10 k n3 n7) (Eq.trans (b := t10 (l7 k n3 n7)) (e10 k n3 n7) (Eq.trans (b := t10 a7) (congrArg t10 h7) (by kernel_rfl))))
def t8 (f10 : T10) : T8 := fun x3 x4 x6 x118 m1 m5 => (iteB x118 (some (false, ())) (f10 x3 x4 x6 m1 m5))
theorem e8 (k n3 n7 : Nat) : u8 k n3 n7 = t8 (l10 k n3 n7) := by kernel_rfl
theorem g8 (k n3 n7 : Nat) : l8 k n3 n7 = u8 k n3 n7 := funext fun _ => funext fun _ => funext fun _ => funext fun _ => funext fun _ => funext fun _ => cut_u _ _ _
def p8 (k : Nat) (a3 : T3) (a7 : T7) : T8 := t8 (p10 k a3 a7)
theorem o8 (k n3 n7 : Nat) (a3 : T3) (a7 : T7) (h3 : l3 k n3 = a3) (h7 : l7 k n3 n7 = a7) : l8 k n3 n7 = p8 k a3 a7 := (Eq.trans (b := u8 k n3 n7) (g8 k n3 n7) (Eq.trans (b := t8 (l10 k n3 n7)) (e8 k n3 n7) (Eq.trans (b := t8 (p10 k a3 a7)) (congrArg t8 (o10 k n3 n7 a3 a7 h3 h7)) (by kernel_rfl))))
def t9 (f3 : T3) : T9 := fun x3 x4 m1 => (f3 x3 (w64 (x4 + (1 : Int))) m1)
theorem e9 (k n3 : Nat) : u9 k n3 = t9 (l3 k n3) := by kernel_rfl
theorem g9 (k n3 : Nat) : l9 k n3 = u9 k n3 := funext fun _ => funext fun _ => funext fun _ => cut_u _ _ _
def p9 (k : Nat) (a3 : T3) : T9 := t9 a3
theorem o9 (k n3 : Nat) (a3 : T3) (h3 : l3 k n3 = a3) : l9 k n3 = p9 k a3 := (Eq.trans (b := u9 k n3) (g9 k n3) (Eq.trans (b := t9 (l3 k n3)) (e9 k n3) (Eq.trans (b := t9 a3) (congrArg t9 h3) (by kernel_rfl))))
def t7 (f8 : T8) (f9 : T9) : T7 := fun x3 x4 x6 m1 m5 => (iteB (decide (x6 < ((List.length m5.2 : Nat) : Int))) (wnR x6 (List.length m5.2) fun q2 => (iteB (decide ((List.getD m5.2 q2 (0 : Int)) < (0 : Int))) (f8 x3 x4 x6 true m1 m5) (wnR x6 (List.length m5.2) fun q3 => (iteB (decide (x3 ≤ (List.getD m5.2 q3 (0 : Int)))) (f8 x3 x4 x6 true m1 m5) (wnR x6 (List.length m5.2) fun q4 => (f8 x3 x4 x6 (decide ((List.getD m5.2 q4 (0 : Int)) = m1.2.1)) m1 m5)))))) (f9 x3 x4 m1))
theorem e7 (k n3 n7 : Nat) : u7 k n3 (n7 + 1) = t7 (l8 k n3 n7) (l9 k n3) := by kernel_rfl
theorem g7 (k n3 n7 : Nat) : l7 k n3 (n7 + 1) = u7 k n3 (n7 + 1) := funext fun _ => funext fun _ => funext fun _ => funext fun _ => funext fun _ => cut_u _ _ _
def p7 (k : Nat) (a3 : T3) : Nat → T7
  | 0 => fun _ _ _ _ _ => none
  | n7 + 1 => t7 (p8 k a3 (p7 k a3 n7)) (p9 k a3)
theorem o7 (k n3 : Nat) (a3 : T3) (h3 : l3 k n3 = a3) : ∀ n7, l7 k n3 n7 = p7 k a3 n7 := by
  intro n7
  induction n7 with
  | zero => kernel_rfl
  | succ n7 ih => exact (Eq.trans (b := u7 k n3 (n7 + 1)) (g7 k n3 n7) (Eq.trans (b := t7 (l8 k n3 n7) (l9 k n3)) (e7 k n3 n7) (Eq.trans (b := t7 (p8 k a3 (p7 k a3 n7)) (p9 k a3)) (congr (congrArg t7 (o8 k n3 n7 a3 (p7 k a3 n7) h3 ih)) (o9 k n3 a3 h3)) (by kernel_rfl))))
def t6 (f7 : T7) : T6 := fun x3 x4 m1 m5 => (f7 x3 x4 (0 : Int) m1 m5)
theorem e6 (k n3 : Nat) : u6 k n3 = t6 (l7 k n3 k) := by kernel_rfl
theorem g6 (k n3 : Nat) : l6 k n3 = u6 k n3 := funext fun _ => funext fun _ => funext fun _ => funext fun _ => cut_u _ _ _
def p6 (k : Nat) (a3 : T3) : T6 := t6 (p7 k a3 k)
theorem o6 (k n3 : Nat) (a3 : T3) (h3 : l3 k n3 = a3) : l6 k n3 = p6 k a3 := (Eq.trans (b := u6 k n3) (g6 k n3) (Eq.trans (b := t6 (l7 k n3 k)) (e6 k n3) (Eq.trans (b := t6 (p7 k a3 k)) (congrArg t6 (o7 k n3 a3 h3 k)) (by kernel_rfl))))
def t4 (f6 : T6) : T4 := fun x3 x4 x86 m1 m5 => (iteB x86 (some (false, ())) (f6 x3 x4 m1 m5))
theorem e4 (k n3 : Nat) : u4 k n3 = t4 (l6 k n3) := by kernel_rfl
theorem g4 (k n3 : Nat) : l4 k n3 = u4 k n3 := funext fun _ => funext fun _ => funext fun _ => funext fun _ => funext fun _ => cut_u _ _ _
def p4 (k : Nat) (a3 : T3) : T4 := t4 (p6 k a3)
theorem o4 (k n3 : Nat) (a3 : T3) (h3 : l3 k n3 = a3) : l4 k n3 = p4 k a3 := (Eq.trans (b := u4 k n3) (g4 k n3) (Eq.trans (b := t4 (l6 k n3)) (e4 k n3) (Eq.trans (b := t4 (p6 k a3)) (congrArg t4 (o6 k n3 a3 h3)) (by kernel_rfl))))
def t14 (f11 : T11) : T14 := fun x7 m1 => (f11 (w64 (x7 + (1 : Int))) m1)
theorem e14 (k n11 : Nat) : u14 k n11 = t14 (l11 k n11) := by kernel_rfl
theorem g14 (k n11 : Nat) : l14 k n11 = u14 k n11 := funext fun _ => funext fun _ => cut_u _ _ _
def p14 (k : Nat) (a11 : T11) : T14 := t14 a11
theorem o14 (k n11 : Nat) (a11 : T11) (h11 : l11 k n11 = a11) : l14 k n11 = p14 k a11 := (Eq.trans (b := u14 k n11) (g14 k n11) (Eq.trans (b := t14 (l11 k n11)) (e14 k n11) (Eq.trans (b := t14 a11) (congrArg t14 h11) (by kernel_rfl))))
def t12 (f14 : T14) : T12 := fun x7 x144 m1 => (iteB x144 (some (false, ())) (f14 x7 m1))
theorem e12 (k n11 : Nat) : u12 k n11 = t12 (l14 k n11) := by kernel_rfl
theorem g12 (k n11 : Nat) : l12 k n11 = u12 k n11 := funext fun _ => funext fun _ => funext fun _ => cut_u _ _ _
def p12 (k : Nat) (a11 : T11) : T12 := t12 (p14 k a11)
theorem o12 (k n11 : Nat) (a11 : T11) (h11 : l11 k n11 = a11) : l12 k n11 = p12 k a11 := (Eq.trans (b := u12 k n11) (g12 k n11) (Eq.trans (b := t12 (l14 k n11)) (e12 k n11) (Eq.trans (b := t12 (p14 k a11)) (congrArg t12 (o14 k n11 a11 h11)) (by kernel_rfl))))
def t13 : T13 := fun m1 => (bindR (s_Q3 (m1, ((1 : Int), (m1.2.2.2.2.2.2.1, ())))) fun r8 => (iteB r8.1 (bindR (s_Q3 (m1, ((2 : Int), (m1.2.2.2.2.2.2.2.1, ())))) fun r9 => (iteB r9.1 (bindR (s_Q3 (m1, ((3 : Int), (m1.2.2.2.2.2.2.2.2, ())))) fun r10 => (some (r10.1, ()))) (some (false, ())))) (some (false, ()))))
theorem e13 (k : Nat) : u13 k = t13 := by kernel_rfl
theorem g13 (k : Nat) : l13 k = u13 k := funext fun _ => cut_u _ _ _
def p13 (k : Nat) : T13 := t13
theorem o13 (k : Nat) : l13 k = p13 k := (Eq.trans (b := u13 k) (g13 k) (Eq.trans (b := t13) (e13 k) (by kernel_rfl)))
def t11 (f12 : T12) (f13 : T13) : T11 := fun x7 m1 => (iteB (decide (x7 < ((List.length m1.2.2.2.2.1 : Nat) : Int))) (wnR x7 (List.length m1.2.2.2.2.1) fun q6 => (iteB (decide ((List.getD m1.2.2.2.2.1 q6 (0 : Int)) < (-1 : Int))) (f12 x7 true m1) (wnR x7 (List.length m1.2.2.2.2.1) fun q7 => (f12 x7 (decide (m1.2.1 ≤ (List.getD m1.2.2.2.2.1 q7 (0 : Int)))) m1)))) (f13 m1))
theorem e11 (k n11 : Nat) : u11 k (n11 + 1) = t11 (l12 k n11) (l13 k) := by kernel_rfl
theorem g11 (k n11 : Nat) : l11 k (n11 + 1) = u11 k (n11 + 1) := funext fun _ => funext fun _ => cut_u _ _ _
def p11 (k : Nat) : Nat → T11
  | 0 => fun _ _ => none
  | n11 + 1 => t11 (p12 k (p11 k n11)) (p13 k)
theorem o11 (k : Nat) : ∀ n11, l11 k n11 = p11 k n11 := by
  intro n11
  induction n11 with
  | zero => kernel_rfl
  | succ n11 ih => exact (Eq.trans (b := u11 k (n11 + 1)) (g11 k n11) (Eq.trans (b := t11 (l12 k n11) (l13 k)) (e11 k n11) (Eq.trans (b := t11 (p12 k (p11 k n11)) (p13 k)) (congr (congrArg t11 (o12 k n11 (p11 k n11) ih)) (o13 k)) (by kernel_rfl))))
def t5 (f11 : T11) : T5 := fun m1 => (bindR (s_Q7 (m1, ())) fun r5 => (iteB (notB r5.1) (some (false, ())) (f11 (0 : Int) m1)))
theorem e5 (k : Nat) : u5 k = t5 (l11 k k) := by kernel_rfl
theorem g5 (k : Nat) : l5 k = u5 k := funext fun _ => cut_u _ _ _
def p5 (k : Nat) : T5 := t5 (p11 k k)
theorem o5 (k : Nat) : l5 k = p5 k := (Eq.trans (b := u5 k) (g5 k) (Eq.trans (b := t5 (l11 k k)) (e5 k) (Eq.trans (b := t5 (p11 k k)) (congrArg t5 (o11 k k)) (by kernel_rfl))))
def t3 (f4 : T4) (f5 : T5) : T3 := fun x3 x4 m1 => (iteB (decide (x4 < ((List.length m1.2.2.2.1 : Nat) : Int))) (wnR x4 (List.length m1.2.2.2.1) fun q1 => (iteB (decide ((List.getD m1.2.2.2.1 q1 ((0 : Int), ([] : List Int))).1 ≤ m1.2.1)) (f4 x3 x4 true m1 (List.getD m1.2.2.2.1 q1 ((0 : Int), ([] : List Int)))) (iteB (decide (x3 ≤ (List.getD m1.2.2.2.1 q1 ((0 : Int), ([] : List Int))).1)) (f4 x3 x4 true m1 (List.getD m1.2.2.2.1 q1 ((0 : Int), ([] : List Int)))) (f4 x3 x4 (decide ((8 : Int) < ((List.length (List.getD m1.2.2.2.1 q1 ((0 : Int), ([] : List Int))).2 : Nat) : Int))) m1 (List.getD m1.2.2.2.1 q1 ((0 : Int), ([] : List Int))))))) (f5 m1))
theorem e3 (k n3 : Nat) : u3 k (n3 + 1) = t3 (l4 k n3) (l5 k) := by kernel_rfl
theorem g3 (k n3 : Nat) : l3 k (n3 + 1) = u3 k (n3 + 1) := funext fun _ => funext fun _ => funext fun _ => cut_u _ _ _
def p3 (k : Nat) : Nat → T3
  | 0 => fun _ _ _ => none
  | n3 + 1 => t3 (p4 k (p3 k n3)) (p5 k)
theorem o3 (k : Nat) : ∀ n3, l3 k n3 = p3 k n3 := by
  intro n3
  induction n3 with
  | zero => kernel_rfl
  | succ n3 ih => exact (Eq.trans (b := u3 k (n3 + 1)) (g3 k n3) (Eq.trans (b := t3 (l4 k n3) (l5 k)) (e3 k n3) (Eq.trans (b := t3 (p4 k (p3 k n3)) (p5 k)) (congr (congrArg t3 (o4 k n3 (p3 k n3) ih)) (o5 k)) (by kernel_rfl))))
def t2 (f3 : T3) : T2 := fun x3 m1 => (f3 x3 (0 : Int) m1)
theorem e2 (k : Nat) : u2 k = t2 (l3 k k) := by kernel_rfl
theorem g2 (k : Nat) : l2 k = u2 k := funext fun _ => funext fun _ => cut_u _ _ _
def p2 (k : Nat) : T2 := t2 (p3 k k)
theorem o2 (k : Nat) : l2 k = p2 k := (Eq.trans (b := u2 k) (g2 k) (Eq.trans (b := t2 (l3 k k)) (e2 k) (Eq.trans (b := t2 (p3 k k)) (congrArg t2 (o3 k k)) (by kernel_rfl))))
def t1 (f2 : T2) : T1 := fun x3 x57 m1 => (iteB x57 (some (false, ())) (f2 x3 m1))
theorem e1 (k : Nat) : u1 k = t1 (l2 k) := by kernel_rfl
theorem g1 (k : Nat) : l1 k = u1 k := funext fun _ => funext fun _ => funext fun _ => cut_u _ _ _
def p1 (k : Nat) : T1 := t1 (p2 k)
theorem o1 (k : Nat) : l1 k = p1 k := (Eq.trans (b := u1 k) (g1 k) (Eq.trans (b := t1 (l2 k)) (e1 k) (Eq.trans (b := t1 (p2 k)) (congrArg t1 (o2 k)) (by kernel_rfl))))
def t0 (f1 : T1) : T0 := fun x0 => (iteB (decide (x0.2.1 < (1 : Int))) (f1 ((List.length x0.1 : Nat) : Int) true x0) (iteB (decide ((32 : Int) < x0.2.1)) (f1 ((List.length x0.1 : Nat) : Int) true x0) (iteB (decide (x0.2.2.1 ≤ x0.2.1)) (f1 ((List.length x0.1 : Nat) : Int) true x0) (iteB (decide (((List.length x0.1 : Nat) : Int) ≤ x0.2.2.1)) (f1 ((List.length x0.1 : Nat) : Int) true x0) (iteB (!decide (((List.length x0.2.2.2.2.2.1 : Nat) : Int) = x0.2.1)) (f1 ((List.length x0.1 : Nat) : Int) true x0) (iteB (decide ((32 : Int) < ((List.length x0.2.2.2.2.1 : Nat) : Int))) (f1 ((List.length x0.1 : Nat) : Int) true x0) (iteB (decide (((List.length x0.2.2.2.1 : Nat) : Int) < (1 : Int))) (f1 ((List.length x0.1 : Nat) : Int) true x0) (f1 ((List.length x0.1 : Nat) : Int) (decide ((64 : Int) < ((List.length x0.2.2.2.1 : Nat) : Int))) x0))))))))
theorem e0 (k : Nat) : u0 k = t0 (l1 k) := by kernel_rfl
def p0 (k : Nat) : T0 := t0 (p1 k)
theorem o0 (k : Nat) : u0 k = p0 k := (Eq.trans (b := t0 (l1 k)) (e0 k) (Eq.trans (b := t0 (p1 k)) (congrArg t0 (o1 k)) (by kernel_rfl)))
end Q8
def s_Q8 (a : D0 × Unit) : Option (Bool × Unit) := Q8.p0 fuel a.1
def F_Q8 : FSpec cx.toNm := { ps := [.val ty0], nres := 1, rt := .bool, rm := .ro, f := s_Q8 }
theorem w_Q8 (a : D0 × Unit) : runOf (S := cx) Q8.E Q8.h fuel Try.f12 F_Q8.ps F_Q8.rt F_Q8.rm a = F_Q8.f a := Eq.trans (b := Q8.u0 fuel a.1) (by kernel_rfl) (Eq.trans (b := Q8.p0 fuel a.1) (congrFun (Q8.o0 fuel) a.1) (by kernel_rfl))
theorem ok_Q8 : FnOk Try.prog F_Q8 12 := fn_of (hn := Q8.h) (E := Q8.E) cxOk (tysT _ _) (fs_cons ok_Q7 (fs_cons ok_Q3 fs_nil)) follows Try.func12 (by kernel_rfl) (fun a r h => ⟨fuel, Eq.trans (w_Q8 a) h⟩)
namespace Q9
def E : Env cx := { tys := tys, fs := fsOf [] }
abbrev R := Option (Bool × Unit)
abbrev C := Exit → ST cx → R
noncomputable def b : Code := bodyC Try.f90
def h : Hint := { vs := [0, 1, 2, 3, 5], nil := [], cuts := [], ret := ([5], []), ords := [] }
abbrev T0 := Int → (List Bool) → Bool → D0 → R
def u0 (k : Nat) : T0 := fun x0 x1 x2 x3 => runOf (S := cx) E h k Try.f90 [.val (.int .i64), .val (.box (.slice 4 .bool)), .val (.box .bool), .val (.box ty0)] .bool .ro (x0, x1, x2, x3, ())
def t0 : T0 := fun x0 x1 x2 x3 => (wnR x0 (List.length x1) fun q1 => (iteB (List.getD x1 q1 false) (some (true, ())) (iteB x2 (some ((decide (x0 < x3.2.1)), ())) (some (false, ())))))
theorem e0 (k : Nat) : u0 k = t0 := by kernel_rfl
def p0 (k : Nat) : T0 := t0
theorem o0 (k : Nat) : u0 k = p0 k := (Eq.trans (b := t0) (e0 k) (by kernel_rfl))
end Q9
def s_Q9 (a : Int × ((List Bool) × (Bool × (D0 × Unit)))) : Option (Bool × Unit) := Q9.p0 fuel a.1 a.2.1 a.2.2.1 a.2.2.2.1
def F_Q9 : FSpec cx.toNm := { ps := [.val (.int .i64), .val (.box (.slice 4 .bool)), .val (.box .bool), .val (.box ty0)], nres := 1, rt := .bool, rm := .ro, f := s_Q9 }
theorem w_Q9 (a : Int × ((List Bool) × (Bool × (D0 × Unit)))) : runOf (S := cx) Q9.E Q9.h fuel Try.f90 F_Q9.ps F_Q9.rt F_Q9.rm a = F_Q9.f a := Eq.trans (b := Q9.u0 fuel a.1 a.2.1 a.2.2.1 a.2.2.2.1) (by kernel_rfl) (Eq.trans (b := Q9.p0 fuel a.1 a.2.1 a.2.2.1 a.2.2.2.1) (congrFun (congrFun (congrFun (congrFun (Q9.o0 fuel) a.1) a.2.1) a.2.2.1) a.2.2.2.1) (by kernel_rfl))
theorem ok_Q9 : FnOk Try.prog F_Q9 90 := fn_of (hn := Q9.h) (E := Q9.E) cxOk (tysT _ _) fs_nil follows Try.func90 (by kernel_rfl) (fun a r h => ⟨fuel, Eq.trans (w_Q9 a) h⟩)
namespace Q10
def E : Env cx := { tys := tys, fs := fsOf [(90, F_Q9)] }
abbrev R := Option (Bool × Unit)
abbrev C := Exit → ST cx → R
noncomputable def b : Code := bodyC Try.f75
def h : Hint := { vs := [0, 1, 3], nil := [], cuts := [], ret := ([3], []), ords := [] }
abbrev T0 := Int → ((List Bool) × (Bool × (D0 × Unit))) → R
def u0 (k : Nat) : T0 := fun x0 x1 => runOf (S := cx) E h k Try.f75 [.val (.int .i64), .val (.box (.clo 90 (.pair (.box (.slice 4 .bool)) (.pair (.box .bool) (.pair (.box ty0) .unit)))))] .bool .ro (x0, x1, ())
def t0 : T0 := fun x0 x1 => (bindR (s_Q9 (x0, (x1.1, (x1.2.1, (x1.2.2.1, ()))))) fun r1 => (some ((notB r1.1), ())))
theorem e0 (k : Nat) : u0 k = t0 := by kernel_rfl
def p0 (k : Nat) : T0 := t0
theorem o0 (k : Nat) : u0 k = p0 k := (Eq.trans (b := t0) (e0 k) (by kernel_rfl))
end Q10
def s_Q10 (a : Int × (((List Bool) × (Bool × (D0 × Unit))) × Unit)) : Option (Bool × Unit) := Q10.p0 fuel a.1 a.2.1
def F_Q10 : FSpec cx.toNm := { ps := [.val (.int .i64), .val (.box (.clo 90 (.pair (.box (.slice 4 .bool)) (.pair (.box .bool) (.pair (.box ty0) .unit)))))], nres := 1, rt := .bool, rm := .ro, f := s_Q10 }
theorem w_Q10 (a : Int × (((List Bool) × (Bool × (D0 × Unit))) × Unit)) : runOf (S := cx) Q10.E Q10.h fuel Try.f75 F_Q10.ps F_Q10.rt F_Q10.rm a = F_Q10.f a := Eq.trans (b := Q10.u0 fuel a.1 a.2.1) (by kernel_rfl) (Eq.trans (b := Q10.p0 fuel a.1 a.2.1) (congrFun (congrFun (Q10.o0 fuel) a.1) a.2.1) (by kernel_rfl))
theorem ok_Q10 : FnOk Try.prog F_Q10 75 := fn_of (hn := Q10.h) (E := Q10.E) cxOk (tysT _ _) (fs_cons ok_Q9 fs_nil) follows Try.func75 (by kernel_rfl) (fun a r h => ⟨fuel, Eq.trans (w_Q10 a) h⟩)
namespace Q11
def E : Env cx := { tys := tys, fs := fsOf [(75, F_Q10)] }
abbrev R := Option (Int × Unit)
abbrev C := Exit → ST cx → R
noncomputable def b : Code := bodyC Try.f76
def h : Hint := { vs := [0, 1, 4, 5, 7, 8], nil := [], cuts := [(2, ([0, 1, 7, 8], []), ([], [])), (7, ([], []), ([], []))], ret := ([4], []), ords := [] }
def K0 : C := fin (S := cx) E Try.f76.results.toList (.int .i64) .ro [] []
def c0 : Code := subC b [1]
def K1 (k : Nat) : C := outD h c0 K0
def c1 : Code := subC b [1, 1]
def K3 (k : Nat) : C := outD h c1 (K1 k)
def K4 (k : Nat) : C := seqC E h k c1 (K1 k)
def c2 : Code := subC b [1, 0, 1]
def K5 (k : Nat) : C := outD h c2 (K4 k)
def K7 (k : Nat) : C := blockK 0 (K5 k)
def c3 : Code := subC b [1, 0, 1, 0, 0]
abbrev T2 := R
abbrev T1 := (List Int) → (((List Bool) × (Bool × (D0 × Unit))) × Unit) → Int → Int → R
abbrev T0 := (List Int) → (((List Bool) × (Bool × (D0 × Unit))) × Unit) → R
abbrev s2 : ST cx := (⟨[], [], []⟩ : ST cx)
def u2 (k : Nat) : T2 := uK (run E h k c1) s2 (K3 k)
abbrev l2 (k : Nat) : T2 := cutK (run E h k c1) s2 (K3 k)
abbrev s1 := fun x0 x1 x7 x8 => (⟨[(0, .v (.slice 3 (.int .i64)) .ro x0), (1, .v (.clo 75 (.pair (.box (.clo 90 (.pair (.box (.slice 4 .bool)) (.pair (.box .bool) (.pair (.box ty0) .unit))))) .unit)) .ro x1), (7, .v (.int .i64) .ro x7), (8, .v (.int .i64) .ro x8)], [], []⟩ : ST cx)
def u1 (k n1 : Nat) : T1 := fun x0 x1 x7 x8 => uK (loopL E h k c3 (K7 k) n1) (s1 x0 x1 x7 x8) ()
abbrev l1 (k n1 : Nat) : T1 := fun x0 x1 x7 x8 => cutK (loopL E h k c3 (K7 k) n1) (s1 x0 x1 x7 x8) ()
def u0 (k : Nat) : T0 := fun x0 x1 => runOf (S := cx) E h k Try.f76 [.val (.slice 3 (.int .i64)), .val (.clo 75 (.pair (.box (.clo 90 (.pair (.box (.slice 4 .bool)) (.pair (.box .bool) (.pair (.box ty0) .unit))))) .unit))] (.int .i64) .ro (x0, x1, ())
def t2 : T2 := 
  (some ((-1 : Int), ()))
theorem e2 (k : Nat) : u2 k = t2 := by kernel_rfl
theorem g2 (k : Nat) : l2 k = u2 k := cut_u _ _ _
def p2 (k : Nat) : T2 := t2
theorem o2 (k : Nat) : l2 k = p2 k := (Eq.trans (b := u2 k) (g2 k) (Eq.trans (b := t2) (e2 k) (by kernel_rfl)))
def t1 (f1 : T1) (f2 : T2) : T1 := fun x0 x1 x7 x8 => (iteB (decide (x8 < x7)) (wnR x8 (List.length x0) fun q1 => (bindR (s_Q10 ((List.getD x0 q1 (0 : Int)), (x1.1, ()))) fun r2 => (iteB r2.1 (some (x8, ())) (f1 x0 x1 x7 (w64 (x8 + (1 : Int))))))) f2)
theorem e1 (k n1 : Nat) : u1 k (n1 + 1) = t1 (l1 k n1) (l2 k) := by kernel_rfl
theorem g1 (k n1 : Nat) : l1 k (n1 + 1) = u1 k (n1 + 1) := funext fun _ => funext fun _ => funext fun _ => funext fun _ => cut_u _ _ _
def p1 (k : Nat) : Nat → T1
  | 0 => fun _ _ _ _ => none
  | n1 + 1 => t1 (p1 k n1) (p2 k)
theorem o1 (k : Nat) : ∀ n1, l1 k n1 = p1 k n1 := by
  intro n1
  induction n1 with
  | zero => kernel_rfl
  | succ n1 ih => exact (Eq.trans (b := u1 k (n1 + 1)) (g1 k n1) (Eq.trans (b := t1 (l1 k n1) (l2 k)) (e1 k n1) (Eq.trans (b := t1 (p1 k n1) (p2 k)) (congr (congrArg t1 ih) (o2 k)) (by kernel_rfl))))
def t0 (f1 : T1) : T0 := fun x0 x1 => (f1 x0 x1 ((List.length x0 : Nat) : Int) (0 : Int))
theorem e0 (k : Nat) : u0 k = t0 (l1 k k) := by kernel_rfl
def p0 (k : Nat) : T0 := t0 (p1 k k)
theorem o0 (k : Nat) : u0 k = p0 k := (Eq.trans (b := t0 (l1 k k)) (e0 k) (Eq.trans (b := t0 (p1 k k)) (congrArg t0 (o1 k k)) (by kernel_rfl)))
end Q11
def s_Q11 (a : (List Int) × ((((List Bool) × (Bool × (D0 × Unit))) × Unit) × Unit)) : Option (Int × Unit) := Q11.p0 fuel a.1 a.2.1
def F_Q11 : FSpec cx.toNm := { ps := [.val (.slice 3 (.int .i64)), .val (.clo 75 (.pair (.box (.clo 90 (.pair (.box (.slice 4 .bool)) (.pair (.box .bool) (.pair (.box ty0) .unit))))) .unit))], nres := 1, rt := (.int .i64), rm := .ro, f := s_Q11 }
theorem w_Q11 (a : (List Int) × ((((List Bool) × (Bool × (D0 × Unit))) × Unit) × Unit)) : runOf (S := cx) Q11.E Q11.h fuel Try.f76 F_Q11.ps F_Q11.rt F_Q11.rm a = F_Q11.f a := Eq.trans (b := Q11.u0 fuel a.1 a.2.1) (by kernel_rfl) (Eq.trans (b := Q11.p0 fuel a.1 a.2.1) (congrFun (congrFun (Q11.o0 fuel) a.1) a.2.1) (by kernel_rfl))
theorem ok_Q11 : FnOk Try.prog F_Q11 76 := fn_of (hn := Q11.h) (E := Q11.E) cxOk (tysT _ _) (fs_cons ok_Q10 fs_nil) follows Try.func76 (by kernel_rfl) (fun a r h => ⟨fuel, Eq.trans (w_Q11 a) h⟩)
namespace Q12
def E : Env cx := { tys := tys, fs := fsOf [(76, F_Q11)] }
abbrev R := Option (Bool × Unit)
abbrev C := Exit → ST cx → R
noncomputable def b : Code := bodyC Try.f60
def h : Hint := { vs := [0, 1, 4], nil := [], cuts := [], ret := ([4], []), ords := [] }
abbrev T0 := (List Int) → (((List Bool) × (Bool × (D0 × Unit))) × Unit) → R
def u0 (k : Nat) : T0 := fun x0 x1 => runOf (S := cx) E h k Try.f60 [.val (.slice 3 (.int .i64)), .val (.clo 75 (.pair (.box (.clo 90 (.pair (.box (.slice 4 .bool)) (.pair (.box .bool) (.pair (.box ty0) .unit))))) .unit))] .bool .ro (x0, x1, ())
def t0 : T0 := fun x0 x1 => (bindR (s_Q11 (x0, (x1, ()))) fun r1 => (some ((decide ((0 : Int) ≤ r1.1)), ())))
theorem e0 (k : Nat) : u0 k = t0 := by kernel_rfl
def p0 (k : Nat) : T0 := t0
theorem o0 (k : Nat) : u0 k = p0 k := (Eq.trans (b := t0) (e0 k) (by kernel_rfl))
end Q12
def s_Q12 (a : (List Int) × ((((List Bool) × (Bool × (D0 × Unit))) × Unit) × Unit)) : Option (Bool × Unit) := Q12.p0 fuel a.1 a.2.1
def F_Q12 : FSpec cx.toNm := { ps := [.val (.slice 3 (.int .i64)), .val (.clo 75 (.pair (.box (.clo 90 (.pair (.box (.slice 4 .bool)) (.pair (.box .bool) (.pair (.box ty0) .unit))))) .unit))], nres := 1, rt := .bool, rm := .ro, f := s_Q12 }
theorem w_Q12 (a : (List Int) × ((((List Bool) × (Bool × (D0 × Unit))) × Unit) × Unit)) : runOf (S := cx) Q12.E Q12.h fuel Try.f60 F_Q12.ps F_Q12.rt F_Q12.rm a = F_Q12.f a := Eq.trans (b := Q12.u0 fuel a.1 a.2.1) (by kernel_rfl) (Eq.trans (b := Q12.p0 fuel a.1 a.2.1) (congrFun (congrFun (Q12.o0 fuel) a.1) a.2.1) (by kernel_rfl))
theorem ok_Q12 : FnOk Try.prog F_Q12 60 := fn_of (hn := Q12.h) (E := Q12.E) cxOk (tysT _ _) (fs_cons ok_Q11 fs_nil) follows Try.func60 (by kernel_rfl) (fun a r h => ⟨fuel, Eq.trans (w_Q12 a) h⟩)
namespace Q13
def E : Env cx := { tys := tys, fs := fsOf [(60, F_Q12)] }
abbrev R := Option (Bool × Unit)
abbrev C := Exit → ST cx → R
noncomputable def b : Code := bodyC Try.f59
def h : Hint := { vs := [0, 1, 2, 3, 4], nil := [], cuts := [], ret := ([4], [2, 3]), ords := [] }
abbrev T0 := (Int × (List Int)) → ((List Bool) × (Bool × (D0 × Unit))) → R
def u0 (k : Nat) : T0 := fun x0 x1 => runOf (S := cx) E h k Try.f59 [.val (.agg (.pair (.int .i64) (.slice 3 (.int .i64)))), .val (.clo 90 (.pair (.box (.slice 4 .bool)) (.pair (.box .bool) (.pair (.box ty0) .unit))))] .bool .ro (x0, x1, ())
def t0 : T0 := fun x0 x1 => (bindR (s_Q12 (x0.2, ((x1, ()), ()))) fun r1 => (some ((notB r1.1), ())))
theorem e0 (k : Nat) : u0 k = t0 := by kernel_rfl
def p0 (k : Nat) : T0 := t0
theorem o0 (k : Nat) : u0 k = p0 k := (Eq.trans (b := t0) (e0 k) (by kernel_rfl))
end Q13
def s_Q13 (a : (Int × (List Int)) × (((List Bool) × (Bool × (D0 × Unit))) × Unit)) : Option (Bool × Unit) := Q13.p0 fuel a.1 a.2.1
def F_Q13 : FSpec cx.toNm := { ps := [.val (.agg (.pair (.int .i64) (.slice 3 (.int .i64)))), .val (.clo 90 (.pair (.box (.slice 4 .bool)) (.pair (.box .bool) (.pair (.box ty0) .unit))))], nres := 1, rt := .bool, rm := .ro, f := s_Q13 }
theorem w_Q13 (a : (Int × (List Int)) × (((List Bool) × (Bool × (D0 × Unit))) × Unit)) : runOf (S := cx) Q13.E Q13.h fuel Try.f59 F_Q13.ps F_Q13.rt F_Q13.rm a = F_Q13.f a := Eq.trans (b := Q13.u0 fuel a.1 a.2.1) (by kernel_rfl) (Eq.trans (b := Q13.p0 fuel a.1 a.2.1) (congrFun (congrFun (Q13.o0 fuel) a.1) a.2.1) (by kernel_rfl))
theorem ok_Q13 : FnOk Try.prog F_Q13 59 := fn_of (hn := Q13.h) (E := Q13.E) cxOk (tysT _ _) (fs_cons ok_Q12 fs_nil) follows Try.func59 (by kernel_rfl) (fun a r h => ⟨fuel, Eq.trans (w_Q13 a) h⟩)
namespace Q14
def E : Env cx := { tys := tys, fs := fsOf [(59, F_Q13)], wr := true }
abbrev R := Option (Bool × ((List Bool) × Unit))
abbrev C := Exit → ST cx → R
noncomputable def b : Code := bodyC Try.f89
def h : Hint := { vs := [0, 1, 2, 3, 4, 5], nil := [(1, (.own .ro))], cuts := [(2, ([1, 4, 16], [4, 1000001]), ([1, 4], [4, 1000001])), (3, ([1, 4], [4, 1000001]), ([1, 4], [4, 1000001]))], ret := ([1, 5], [4, 1000001]), ords := [], fns := [(13, [true, true, true])] }
def K0 : C := fin (S := cx) E Try.f89.results.toList .bool .ro [1000001] [((.slice 4 .bool), (.own .ro))]
def c0 : Code := subC b [1]
def K1 (k : Nat) : C := outD h c0 K0
def c1 : Code := subC b [1, 1]
def K3 (k : Nat) : C := outD h c1 (K1 k)
def K4 (k : Nat) : C := seqC E h k c1 (K1 k)
def c2 : Code := subC b [1, 0, 1]
def K5 (k : Nat) : C := outD h c2 (K4 k)
abbrev T2 := (Int × (List Int)) → (List Bool) → R
abbrev T1 := Bool → (Int × (List Int)) → (List Bool) → R
abbrev T0 := (Int × (List Int)) → (List Bool) → Bool → D0 → R
abbrev s2 := fun m4 m1000001 => (⟨[(1, .addr (.mem 1000001) []), (4, .addr (.mem 4) [])], [], [(4, ⟨(.agg (.pair (.int .i64) (.slice 3 (.int .i64)))), .ro, m4⟩), (1000001, ⟨(.slice 4 .bool), (.own .ro), m1000001⟩)]⟩ : ST cx)
def u2 (k : Nat) : T2 := fun m4 m1000001 => uK (run E h k c1) (s2 m4 m1000001) (K3 k)
abbrev l2 (k : Nat) : T2 := fun m4 m1000001 => cutK (run E h k c1) (s2 m4 m1000001) (K3 k)
abbrev s1 := fun x16 m4 m1000001 => (⟨[(1, .addr (.mem 1000001) []), (4, .addr (.mem 4) []), (16, .v .bool .ro x16)], [], [(4, ⟨(.agg (.pair (.int .i64) (.slice 3 (.int .i64)))), .ro, m4⟩), (1000001, ⟨(.slice 4 .bool), (.own .ro), m1000001⟩)]⟩ : ST cx)
def u1 (k : Nat) : T1 := fun x16 m4 m1000001 => uK (run E h k c2) (s1 x16 m4 m1000001) (K5 k)
abbrev l1 (k : Nat) : T1 := fun x16 m4 m1000001 => cutK (run E h k c2) (s1 x16 m4 m1000001) (K5 k)
def u0 (k : Nat) : T0 := fun x0 x1 x2 x3 => runOf (S := cx) E h k Try.f89 [.val (.agg (.pair (.int .i64) (.slice 3 (.int .i64)))), .io (.slice 4 .bool) (.own .ro), .val (.box .bool), .val (.box ty0)] .bool .ro (x0, x1, x2, x3, ())
def t2 : T2 := fun m4 m1000001 => (wnR m4.1 (List.length m1000001) fun q3 => (some (true, ((List.set m1000001 q3 true), ()))))
theorem e2 (k : Nat) : u2 k = t2 := by kernel_rfl
theorem g2 (k : Nat) : l2 k = u2 k := funext fun _ => funext fun _ => cut_u _ _ _
def p2 (k : Nat) : T2 := t2
theorem o2 (k : Nat) : l2 k = p2 k := (Eq.trans (b := u2 k) (g2 k) (Eq.trans (b := t2) (e2 k) (by kernel_rfl)))
def t1 (f2 : T2) : T1 := fun x16 m4 m1000001 => (iteB x16 (some (false, (m1000001, ()))) (f2 m4 m1000001))
theorem e1 (k : Nat) : u1 k = t1 (l2 k) := by kernel_rfl
theorem g1 (k : Nat) : l1 k = u1 k := funext fun _ => funext fun _ => funext fun _ => cut_u _ _ _
def p1 (k : Nat) : T1 := t1 (p2 k)
theorem o1 (k : Nat) : l1 k = p1 k := (Eq.trans (b := u1 k) (g1 k) (Eq.trans (b := t1 (l2 k)) (e1 k) (Eq.trans (b := t1 (p2 k)) (congrArg t1 (o2 k)) (by kernel_rfl))))
def t0 (f1 : T1) : T0 := fun x0 x1 x2 x3 => (wnR x0.1 (List.length x1) fun q1 => (iteB (List.getD x1 q1 false) (f1 true x0 x1) (bindR (s_Q13 (x0, ((x1, (x2, (x3, ()))), ()))) fun r2 => (f1 (notB r2.1) x0 x1))))
theorem e0 (k : Nat) : u0 k = t0 (l1 k) := by kernel_rfl
def p0 (k : Nat) : T0 := t0 (p1 k)
theorem o0 (k : Nat) : u0 k = p0 k := (Eq.trans (b := t0 (l1 k)) (e0 k) (Eq.trans (b := t0 (p1 k)) (congrArg t0 (o1 k)) (by kernel_rfl)))
end Q14
def s_Q14 (a : (Int × (List Int)) × ((List Bool) × (Bool × (D0 × Unit)))) : Option (Bool × ((List Bool) × Unit)) := Q14.p0 fuel a.1 a.2.1 a.2.2.1 a.2.2.2.1
def F_Q14 : FSpec cx.toNm := { ps := [.val (.agg (.pair (.int .i64) (.slice 3 (.int .i64)))), .io (.slice 4 .bool) (.own .ro), .val (.box .bool), .val (.box ty0)], nres := 1, rt := .bool, rm := .ro, f := s_Q14 }
theorem w_Q14 (a : (Int × (List Int)) × ((List Bool) × (Bool × (D0 × Unit)))) : runOf (S := cx) Q14.E Q14.h fuel Try.f89 F_Q14.ps F_Q14.rt F_Q14.rm a = F_Q14.f a := Eq.trans (b := Q14.u0 fuel a.1 a.2.1 a.2.2.1 a.2.2.2.1) (by kernel_rfl) (Eq.trans (b := Q14.p0 fuel a.1 a.2.1 a.2.2.1 a.2.2.2.1) (congrFun (congrFun (congrFun (congrFun (Q14.o0 fuel) a.1) a.2.1) a.2.2.1) a.2.2.2.1) (by kernel_rfl))
theorem ok_Q14 : FnOk Try.prog F_Q14 89 := fn_of (hn := Q14.h) (E := Q14.E) cxOk (tysT _ _) (fs_cons ok_Q13 fs_nil) follows Try.func89 (by kernel_rfl) (fun a r h => ⟨fuel, Eq.trans (w_Q14 a) h⟩)
namespace Q15
def E : Env cx := { tys := tys, fs := fsOf [(89, F_Q14)], wr := true }
abbrev R := Option (Unit × ((List Bool) × Unit))
abbrev C := Exit → ST cx → R
noncomputable def b : Code := bodyC Try.f78
def h : Hint := { vs := [0, 1, 2, 4, 6, 9, 10, 11], nil := [], cuts := [(2, ([1, 2, 4], [2, 1000002]), ([], [1000002])), (5, ([1, 2, 4, 9, 10, 11], [2, 1000002]), ([1, 2, 4], [2, 1000002])), (8, ([1, 2, 4, 9, 10, 11], [2, 1000002]), ([1, 2, 4, 9, 10, 11], [2, 1000002]))], ret := ([], [2, 6, 1000002]), ords := [] }
def K0 : C := fin (S := cx) E Try.f78.results.toList .unit .ro [1000002] [((.slice 4 .bool), (.own .ro))]
def c0 : Code := subC b [1]
def K1 (k : Nat) : C := outD h c0 K0
def c1 : Code := subC b [1, 1]
def K3 (k : Nat) : C := outD h c1 (K1 k)
def K5 (k : Nat) : C := blockK 0 (K3 k)
def c2 : Code := subC b [1, 1, 0, 0]
def K6 (k n1 : Nat) : C := loopD E h k c2 (K5 k) n1
def c3 : Code := subC b [1, 1, 0, 0, 1]
def K7 (k n1 : Nat) : C := outD h c3 (K6 k n1)
def K11 (k n1 : Nat) : C := blockK 1 (K7 k n1)
def c5 : Code := subC b [1, 1, 0, 0, 1, 0, 1]
def K12 (k n1 : Nat) : C := outD h c5 (K11 k n1)
def c6 : Code := subC b [1, 1, 0, 0, 1, 0, 1, 1]
def K14 (k n1 : Nat) : C := outD h c6 (K12 k n1)
def K16 (k n1 : Nat) : C := blockK 2 (K14 k n1)
def c7 : Code := subC b [1, 1, 0, 0, 1, 0, 1, 1, 0, 0]
def K17 (k n1 n2 : Nat) : C := loopD E h k c7 (K16 k n1) n2
def c8 : Code := subC b [1, 1, 0, 0, 1, 0, 1, 1, 0, 0, 1]
def K18 (k n1 n2 : Nat) : C := outD h c8 (K17 k n1 n2)
def c9 : Code := subC b [1, 1, 0, 0, 1, 0, 1, 1, 0, 0, 1, 1]
def K20 (k n1 n2 : Nat) : C := outD h c9 (K18 k n1 n2)
def c10 : Code := subC b [1, 1, 0, 0, 1, 0, 1, 1, 0, 0, 1, 1, 1]
def K22 (k n1 n2 : Nat) : C := outD h c10 (K20 k n1 n2)
abbrev T3 := Bool → D0 → Bool → (List (Int × (List Int))) → Int → Int → D0 → (List Bool) → R
abbrev T2 := Bool → D0 → Bool → (List (Int × (List Int))) → Int → Int → D0 → (List Bool) → R
abbrev T1 := Bool → D0 → Bool → D0 → (List Bool) → R
abbrev T0 := D0 → Unit → (List Bool) → Bool → D0 → R
abbrev s3 := fun x1_1 x1_2 x4 x9 x10 x11 m2 m1000002 => (⟨[(1, .fn 89 [.m 1000002, .d .bool x1_1, .d ty0 x1_2]), (2, .addr (.mem 2) []), (4, .v .bool .ro x4), (9, .v (.slice 41 (.agg (.pair (.int .i64) (.slice 3 (.int .i64))))) .ro x9), (10, .v (.int .i64) .ro x10), (11, .v (.int .i64) .ro x11)], [], [(2, ⟨ty0, .ro, m2⟩), (1000002, ⟨(.slice 4 .bool), (.own .ro), m1000002⟩)]⟩ : ST cx)
def u3 (k n1 n2 : Nat) : T3 := fun x1_1 x1_2 x4 x9 x10 x11 m2 m1000002 => uK (run E h k c10) (s3 x1_1 x1_2 x4 x9 x10 x11 m2 m1000002) (K22 k n1 n2)
abbrev l3 (k n1 n2 : Nat) : T3 := fun x1_1 x1_2 x4 x9 x10 x11 m2 m1000002 => cutK (run E h k c10) (s3 x1_1 x1_2 x4 x9 x10 x11 m2 m1000002) (K22 k n1 n2)
abbrev s2 := fun x1_1 x1_2 x4 x9 x10 x11 m2 m1000002 => (⟨[(1, .fn 89 [.m 1000002, .d .bool x1_1, .d ty0 x1_2]), (2, .addr (.mem 2) []), (4, .v .bool .ro x4), (9, .v (.slice 41 (.agg (.pair (.int .i64) (.slice 3 (.int .i64))))) .ro x9), (10, .v (.int .i64) .ro x10), (11, .v (.int .i64) .ro x11)], [], [(2, ⟨ty0, .ro, m2⟩), (1000002, ⟨(.slice 4 .bool), (.own .ro), m1000002⟩)]⟩ : ST cx)
def u2 (k n1 n2 : Nat) : T2 := fun x1_1 x1_2 x4 x9 x10 x11 m2 m1000002 => uK (loopL E h k c7 (K16 k n1) n2) (s2 x1_1 x1_2 x4 x9 x10 x11 m2 m1000002) ()
abbrev l2 (k n1 n2 : Nat) : T2 := fun x1_1 x1_2 x4 x9 x10 x11 m2 m1000002 => cutK (loopL E h k c7 (K16 k n1) n2) (s2 x1_1 x1_2 x4 x9 x10 x11 m2 m1000002) ()
abbrev s1 := fun x1_1 x1_2 x4 m2 m1000002 => (⟨[(1, .fn 89 [.m 1000002, .d .bool x1_1, .d ty0 x1_2]), (2, .addr (.mem 2) []), (4, .v .bool .ro x4)], [], [(2, ⟨ty0, .ro, m2⟩), (1000002, ⟨(.slice 4 .bool), (.own .ro), m1000002⟩)]⟩ : ST cx)
def u1 (k n1 : Nat) : T1 := fun x1_1 x1_2 x4 m2 m1000002 => uK (loopL E h k c2 (K5 k) n1) (s1 x1_1 x1_2 x4 m2 m1000002) ()
abbrev l1 (k n1 : Nat) : T1 := fun x1_1 x1_2 x4 m2 m1000002 => cutK (loopL E h k c2 (K5 k) n1) (s1 x1_1 x1_2 x4 m2 m1000002) ()
def u0 (k : Nat) : T0 := fun x0 x1 x2 x3 x4 => runOf (S := cx) E h k Try.f78 [.val ty0, .fn 89 3, .io (.slice 4 .bool) (.own .ro), .val (.box .bool), .val (.box ty0)] .unit .ro (x0, x1, x2, x3, x4, ())
def t3 (f2 : T2) : T3 := fun x1_1 x1_2 x4 x9 x10 x11 m2 m1000002 => (f2 x1_1 x1_2 x4 x9 x10 (w64 (x11 + (1 : Int))) m2 m1000002)
theorem e3 (k n1 n2 : Nat) : u3 k n1 n2 = t3 (l2 k n1 n2) := by kernel_rfl
theorem g3 (k n1 n2 : Nat) : l3 k n1 n2 = u3 k n1 n2 := funext fun _ => funext fun _ => funext fun _ => funext fun _ => funext fun _ => funext fun _ => funext fun _ => funext fun _ => cut_u _ _ _
def p3 (k : Nat) (a1 : T1) (a2 : T2) : T3 := t3 a2
theorem o3 (k n1 n2 : Nat) (a1 : T1) (a2 : T2) (h1 : l1 k n1 = a1) (h2 : l2 k n1 n2 = a2) : l3 k n1 n2 = p3 k a1 a2 := (Eq.trans (b := u3 k n1 n2) (g3 k n1 n2) (Eq.trans (b := t3 (l2 k n1 n2)) (e3 k n1 n2) (Eq.trans (b := t3 a2) (congrArg t3 h2) (by kernel_rfl))))
def t2 (f3 : T3) (f1 : T1) : T2 := fun x1_1 x1_2 x4 x9 x10 x11 m2 m1000002 => (iteB (decide (x11 < x10)) (wnR x11 (List.length x9) fun q1 => (bindR (s_Q14 ((List.getD x9 q1 ((0 : Int), ([] : List Int))), (m1000002, (x1_1, (x1_2, ()))))) fun r2 => (iteB r2.1 (f3 x1_1 x1_2 true x9 x10 x11 m2 r2.2.1) (f3 x1_1 x1_2 x4 x9 x10 x11 m2 r2.2.1)))) (f1 x1_1 x1_2 x4 m2 m1000002))
theorem e2 (k n1 n2 : Nat) : u2 k n1 (n2 + 1) = t2 (l3 k n1 n2) (l1 k n1) := by kernel_rfl
theorem g2 (k n1 n2 : Nat) : l2 k n1 (n2 + 1) = u2 k n1 (n2 + 1) := funext fun _ => funext fun _ => funext fun _ => funext fun _ => funext fun _ => funext fun _ => funext fun _ => funext fun _ => cut_u _ _ _
def p2 (k : Nat) (a1 : T1) : Nat → T2
  | 0 => fun _ _ _ _ _ _ _ _ => none
  | n2 + 1 => t2 (p3 k a1 (p2 k a1 n2)) a1
theorem o2 (k n1 : Nat) (a1 : T1) (h1 : l1 k n1 = a1) : ∀ n2, l2 k n1 n2 = p2 k a1 n2 := by
  intro n2
  induction n2 with
  | zero => kernel_rfl
  | succ n2 ih => exact (Eq.trans (b := u2 k n1 (n2 + 1)) (g2 k n1 n2) (Eq.trans (b := t2 (l3 k n1 n2) (l1 k n1)) (e2 k n1 n2) (Eq.trans (b := t2 (p3 k a1 (p2 k a1 n2)) a1) (congr (congrArg t2 (o3 k n1 n2 a1 (p2 k a1 n2) h1 ih)) h1) (by kernel_rfl))))
def t1 (f2 : T2) : T1 := fun x1_1 x1_2 x4 m2 m1000002 => (iteB x4 (f2 x1_1 x1_2 false m2.2.2.2.1 ((List.length m2.2.2.2.1 : Nat) : Int) (0 : Int) m2 m1000002) (some ((), (m1000002, ()))))
theorem e1 (k n1 : Nat) : u1 k (n1 + 1) = t1 (l2 k n1 k) := by kernel_rfl
theorem g1 (k n1 : Nat) : l1 k (n1 + 1) = u1 k (n1 + 1) := funext fun _ => funext fun _ => funext fun _ => funext fun _ => funext fun _ => cut_u _ _ _
def p1 (k : Nat) : Nat → T1
  | 0 => fun _ _ _ _ _ => none
  | n1 + 1 => t1 (p2 k (p1 k n1) k)
theorem o1 (k : Nat) : ∀ n1, l1 k n1 = p1 k n1 := by
  intro n1
  induction n1 with
  | zero => kernel_rfl
  | succ n1 ih => exact (Eq.trans (b := u1 k (n1 + 1)) (g1 k n1) (Eq.trans (b := t1 (l2 k n1 k)) (e1 k n1) (Eq.trans (b := t1 (p2 k (p1 k n1) k)) (congrArg t1 (o2 k n1 (p1 k n1) ih k)) (by kernel_rfl))))
def t0 (f1 : T1) : T0 := fun x0 x1 x2 x3 x4 => (f1 x3 x4 true x0 x2)
theorem e0 (k : Nat) : u0 k = t0 (l1 k k) := by kernel_rfl
def p0 (k : Nat) : T0 := t0 (p1 k k)
theorem o0 (k : Nat) : u0 k = p0 k := (Eq.trans (b := t0 (l1 k k)) (e0 k) (Eq.trans (b := t0 (p1 k k)) (congrArg t0 (o1 k k)) (by kernel_rfl)))
end Q15
def s_Q15 (a : D0 × (Unit × ((List Bool) × (Bool × (D0 × Unit))))) : Option (Unit × ((List Bool) × Unit)) := Q15.p0 fuel a.1 a.2.1 a.2.2.1 a.2.2.2.1 a.2.2.2.2.1
def F_Q15 : FSpec cx.toNm := { ps := [.val ty0, .fn 89 3, .io (.slice 4 .bool) (.own .ro), .val (.box .bool), .val (.box ty0)], nres := 0, rt := .unit, rm := .ro, f := s_Q15 }
theorem w_Q15 (a : D0 × (Unit × ((List Bool) × (Bool × (D0 × Unit))))) : runOf (S := cx) Q15.E Q15.h fuel Try.f78 F_Q15.ps F_Q15.rt F_Q15.rm a = F_Q15.f a := Eq.trans (b := Q15.u0 fuel a.1 a.2.1 a.2.2.1 a.2.2.2.1 a.2.2.2.2.1) (by kernel_rfl) (Eq.trans (b := Q15.p0 fuel a.1 a.2.1 a.2.2.1 a.2.2.2.1 a.2.2.2.2.1) (congrFun (congrFun (congrFun (congrFun (congrFun (Q15.o0 fuel) a.1) a.2.1) a.2.2.1) a.2.2.2.1) a.2.2.2.2.1) (by kernel_rfl))
theorem ok_Q15 : FnOk Try.prog F_Q15 78 := fn_of (hn := Q15.h) (E := Q15.E) cxOk (tysT _ _) (fs_cons ok_Q14 fs_nil) follows Try.func78 (by kernel_rfl) (fun a r h => ⟨fuel, Eq.trans (w_Q15 a) h⟩)
namespace Q16
def E : Env cx := { tys := tys, fs := fsOf [(78, F_Q15)], wr := true }
abbrev R := Option ((List Bool) × Unit)
abbrev C := Exit → ST cx → R
noncomputable def b : Code := bodyC Try.f77
def h : Hint := { vs := [0, 1, 2, 3, 4, 5], nil := [], cuts := [], ret := ([4], [2, 3, 5]), ords := [], fns := [(11, [true, false, false])] }
abbrev T0 := D0 → Bool → R
def u0 (k : Nat) : T0 := fun x0 x1 => runOf (S := cx) E h k Try.f77 [.val ty0, .val .bool] (.slice 4 .bool) .ro (x0, x1, ())
def t0 : T0 := fun x0 x1 => (mustR (decide (((List.length x0.1 : Nat) : Int) = ((List.length x0.1 : Nat) : Int) ∧ (0 : Int) ≤ ((List.length x0.1 : Nat) : Int) ∧ ((List.length x0.1 : Nat) : Int) ≤ (16777216 : Int))) (bindR (s_Q15 (x0, ((), ((List.replicate (Int.toNat ((List.length x0.1 : Nat) : Int)) false), (x1, (x0, ())))))) fun r1 => (some (r1.2.1, ()))))
theorem e0 (k : Nat) : u0 k = t0 := by kernel_rfl
def p0 (k : Nat) : T0 := t0
theorem o0 (k : Nat) : u0 k = p0 k := (Eq.trans (b := t0) (e0 k) (by kernel_rfl))
end Q16
def s_Q16 (a : D0 × (Bool × Unit)) : Option ((List Bool) × Unit) := Q16.p0 fuel a.1 a.2.1
def F_Q16 : FSpec cx.toNm := { ps := [.val ty0, .val .bool], nres := 1, rt := (.slice 4 .bool), rm := .ro, f := s_Q16 }
theorem w_Q16 (a : D0 × (Bool × Unit)) : runOf (S := cx) Q16.E Q16.h fuel Try.f77 F_Q16.ps F_Q16.rt F_Q16.rm a = F_Q16.f a := Eq.trans (b := Q16.u0 fuel a.1 a.2.1) (by kernel_rfl) (Eq.trans (b := Q16.p0 fuel a.1 a.2.1) (congrFun (congrFun (Q16.o0 fuel) a.1) a.2.1) (by kernel_rfl))
theorem ok_Q16 : FnOk Try.prog F_Q16 77 := fn_of (hn := Q16.h) (E := Q16.E) cxOk (tysT _ _) (fs_cons ok_Q15 fs_nil) follows Try.func77 (by kernel_rfl) (fun a r h => ⟨fuel, Eq.trans (w_Q16 a) h⟩)
namespace Q17
def E : Env cx := { tys := tys, fs := fsOf [(77, F_Q16)] }
abbrev R := Option ((List Bool) × Unit)
abbrev C := Exit → ST cx → R
noncomputable def b : Code := bodyC Try.f62
def h : Hint := { vs := [0, 1, 2], nil := [], cuts := [], ret := ([2], [1]), ords := [] }
abbrev T0 := D0 → R
def u0 (k : Nat) : T0 := fun x0 => runOf (S := cx) E h k Try.f62 [.val ty0] (.slice 4 .bool) .ro (x0, ())
def t0 : T0 := fun x0 => (bindR (s_Q16 (x0, (true, ()))) fun r1 => (some (r1.1, ())))
theorem e0 (k : Nat) : u0 k = t0 := by kernel_rfl
def p0 (k : Nat) : T0 := t0
theorem o0 (k : Nat) : u0 k = p0 k := (Eq.trans (b := t0) (e0 k) (by kernel_rfl))
end Q17
def s_Q17 (a : D0 × Unit) : Option ((List Bool) × Unit) := Q17.p0 fuel a.1
def F_Q17 : FSpec cx.toNm := { ps := [.val ty0], nres := 1, rt := (.slice 4 .bool), rm := .ro, f := s_Q17 }
theorem w_Q17 (a : D0 × Unit) : runOf (S := cx) Q17.E Q17.h fuel Try.f62 F_Q17.ps F_Q17.rt F_Q17.rm a = F_Q17.f a := Eq.trans (b := Q17.u0 fuel a.1) (by kernel_rfl) (Eq.trans (b := Q17.p0 fuel a.1) (congrFun (Q17.o0 fuel) a.1) (by kernel_rfl))
theorem ok_Q17 : FnOk Try.prog F_Q17 62 := fn_of (hn := Q17.h) (E := Q17.E) cxOk (tysT _ _) (fs_cons ok_Q16 fs_nil) follows Try.func62 (by kernel_rfl) (fun a r h => ⟨fuel, Eq.trans (w_Q17 a) h⟩)
namespace Q18
def E : Env cx := { tys := tys, fs := fsOf [] }
abbrev R := Option (Bool × ((List Bool) × Unit))
abbrev C := Exit → ST cx → R
noncomputable def b : Code := bodyC Try.f79
def h : Hint := { vs := [0, 1, 2, 3, 4, 6, 8, 9, 10], nil := [(1, (.own .ro))], cuts := [(3, ([1, 2, 4, 8, 9, 10], [2, 1000001]), ([1, 4], [1000001])), (6, ([1, 2, 4, 6, 8, 9, 10], [2, 1000001]), ([1, 2, 4, 8, 9, 10], [2, 1000001])), (7, ([1, 2, 4, 8, 9, 10], [2, 1000001]), ([1, 2, 4, 8, 9, 10], [2, 1000001])), (8, ([1, 4], [1000001]), ([1, 4], [1000001]))], ret := ([1, 3], [2, 1000001]), ords := [] }
def K0 : C := fin (S := cx) E Try.f79.results.toList .bool .ro [1000001] [((.slice 4 .bool), (.own .ro))]
def c0 : Code := subC b [1]
def K1 (k : Nat) : C := outD h c0 K0
def c1 : Code := subC b [1, 1]
def K3 (k : Nat) : C := outD h c1 (K1 k)
def c2 : Code := subC b [1, 1, 1]
def K5 (k : Nat) : C := outD h c2 (K3 k)
def K6 (k : Nat) : C := seqC E h k c2 (K3 k)
def c3 : Code := subC b [1, 1, 0, 1]
def K7 (k : Nat) : C := outD h c3 (K6 k)
def K9 (k : Nat) : C := blockK 0 (K7 k)
def c4 : Code := subC b [1, 1, 0, 1, 0, 0]
def K10 (k n1 : Nat) : C := loopD E h k c4 (K9 k) n1
def c5 : Code := subC b [1, 1, 0, 1, 0, 0, 1]
def K11 (k n1 : Nat) : C := outD h c5 (K10 k n1)
def c6 : Code := subC b [1, 1, 0, 1, 0, 0, 1, 1]
def K13 (k n1 : Nat) : C := outD h c6 (K11 k n1)
def c7 : Code := subC b [1, 1, 0, 1, 0, 0, 1, 1, 1]
def K15 (k n1 : Nat) : C := outD h c7 (K13 k n1)
def K16 (k n1 : Nat) : C := seqC E h k c7 (K13 k n1)
def K17 (k n1 : Nat) : C := blockK 1 (K16 k n1)
def c8 : Code := subC b [1, 1, 0, 1, 0, 0, 1, 1, 0, 0, 1]
def K18 (k n1 : Nat) : C := outD h c8 (K17 k n1)
def c9 : Code := subC b [1, 1, 0, 1, 0, 0, 1, 1, 0, 0, 1, 1]
def K20 (k n1 : Nat) : C := outD h c9 (K18 k n1)
abbrev T4 := Bool → (List Int) → Int → Int → (Int × (List Int)) → (List Bool) → R
abbrev T2 := Bool → Int → (List Int) → Int → Int → (Int × (List Int)) → (List Bool) → R
abbrev T3 := Bool → (List Bool) → R
abbrev T1 := Bool → (List Int) → Int → Int → (Int × (List Int)) → (List Bool) → R
abbrev T0 := (Int × (List Int)) → (List Bool) → R
abbrev s4 := fun x4 x8 x9 x10 m2 m1000001 => (⟨[(1, .addr (.mem 1000001) []), (2, .addr (.mem 2) []), (4, .v .bool .ro x4), (8, .v (.slice 3 (.int .i64)) .ro x8), (9, .v (.int .i64) .ro x9), (10, .v (.int .i64) .ro x10)], [], [(2, ⟨(.agg (.pair (.int .i64) (.slice 3 (.int .i64)))), .ro, m2⟩), (1000001, ⟨(.slice 4 .bool), (.own .ro), m1000001⟩)]⟩ : ST cx)
def u4 (k n1 : Nat) : T4 := fun x4 x8 x9 x10 m2 m1000001 => uK (run E h k c7) (s4 x4 x8 x9 x10 m2 m1000001) (K15 k n1)
abbrev l4 (k n1 : Nat) : T4 := fun x4 x8 x9 x10 m2 m1000001 => cutK (run E h k c7) (s4 x4 x8 x9 x10 m2 m1000001) (K15 k n1)
abbrev s2 := fun x4 x6 x8 x9 x10 m2 m1000001 => (⟨[(1, .addr (.mem 1000001) []), (2, .addr (.mem 2) []), (4, .v .bool .ro x4), (6, .v (.int .i64) .ro x6), (8, .v (.slice 3 (.int .i64)) .ro x8), (9, .v (.int .i64) .ro x9), (10, .v (.int .i64) .ro x10)], [], [(2, ⟨(.agg (.pair (.int .i64) (.slice 3 (.int .i64)))), .ro, m2⟩), (1000001, ⟨(.slice 4 .bool), (.own .ro), m1000001⟩)]⟩ : ST cx)
def u2 (k n1 : Nat) : T2 := fun x4 x6 x8 x9 x10 m2 m1000001 => uK (run E h k c9) (s2 x4 x6 x8 x9 x10 m2 m1000001) (K20 k n1)
abbrev l2 (k n1 : Nat) : T2 := fun x4 x6 x8 x9 x10 m2 m1000001 => cutK (run E h k c9) (s2 x4 x6 x8 x9 x10 m2 m1000001) (K20 k n1)
abbrev s3 := fun x4 m1000001 => (⟨[(1, .addr (.mem 1000001) []), (4, .v .bool .ro x4)], [], [(1000001, ⟨(.slice 4 .bool), (.own .ro), m1000001⟩)]⟩ : ST cx)
def u3 (k : Nat) : T3 := fun x4 m1000001 => uK (run E h k c2) (s3 x4 m1000001) (K5 k)
abbrev l3 (k : Nat) : T3 := fun x4 m1000001 => cutK (run E h k c2) (s3 x4 m1000001) (K5 k)
abbrev s1 := fun x4 x8 x9 x10 m2 m1000001 => (⟨[(1, .addr (.mem 1000001) []), (2, .addr (.mem 2) []), (4, .v .bool .ro x4), (8, .v (.slice 3 (.int .i64)) .ro x8), (9, .v (.int .i64) .ro x9), (10, .v (.int .i64) .ro x10)], [], [(2, ⟨(.agg (.pair (.int .i64) (.slice 3 (.int .i64)))), .ro, m2⟩), (1000001, ⟨(.slice 4 .bool), (.own .ro), m1000001⟩)]⟩ : ST cx)
def u1 (k n1 : Nat) : T1 := fun x4 x8 x9 x10 m2 m1000001 => uK (loopL E h k c4 (K9 k) n1) (s1 x4 x8 x9 x10 m2 m1000001) ()
abbrev l1 (k n1 : Nat) : T1 := fun x4 x8 x9 x10 m2 m1000001 => cutK (loopL E h k c4 (K9 k) n1) (s1 x4 x8 x9 x10 m2 m1000001) ()
def u0 (k : Nat) : T0 := fun x0 x1 => runOf (S := cx) E h k Try.f79 [.val (.agg (.pair (.int .i64) (.slice 3 (.int .i64)))), .io (.slice 4 .bool) (.own .ro)] .bool .ro (x0, x1, ())
def t4 (f1 : T1) : T4 := fun x4 x8 x9 x10 m2 m1000001 => (f1 x4 x8 x9 (w64 (x10 + (1 : Int))) m2 m1000001)
theorem e4 (k n1 : Nat) : u4 k n1 = t4 (l1 k n1) := by kernel_rfl
theorem g4 (k n1 : Nat) : l4 k n1 = u4 k n1 := funext fun _ => funext fun _ => funext fun _ => funext fun _ => funext fun _ => funext fun _ => cut_u _ _ _
def p4 (k : Nat) (a1 : T1) : T4 := t4 a1
theorem o4 (k n1 : Nat) (a1 : T1) (h1 : l1 k n1 = a1) : l4 k n1 = p4 k a1 := (Eq.trans (b := u4 k n1) (g4 k n1) (Eq.trans (b := t4 (l1 k n1)) (e4 k n1) (Eq.trans (b := t4 a1) (congrArg t4 h1) (by kernel_rfl))))
def t2 (f4 : T4) : T2 := fun x4 x6 x8 x9 x10 m2 m1000001 => (wnR x6 (List.length m1000001) fun q4 => (iteB (List.getD m1000001 q4 false) (wnR x6 (List.length m1000001) fun q5 => (f4 x4 x8 x9 x10 m2 (List.set m1000001 q5 true))) (wnR m2.1 (List.length m1000001) fun q6 => (wnR x6 (List.length m1000001) fun q7 => (f4 x4 x8 x9 x10 m2 (List.set m1000001 q7 (List.getD m1000001 q6 false)))))))
theorem e2 (k n1 : Nat) : u2 k n1 = t2 (l4 k n1) := by kernel_rfl
theorem g2 (k n1 : Nat) : l2 k n1 = u2 k n1 := funext fun _ => funext fun _ => funext fun _ => funext fun _ => funext fun _ => funext fun _ => funext fun _ => cut_u _ _ _
def p2 (k : Nat) (a1 : T1) : T2 := t2 (p4 k a1)
theorem o2 (k n1 : Nat) (a1 : T1) (h1 : l1 k n1 = a1) : l2 k n1 = p2 k a1 := (Eq.trans (b := u2 k n1) (g2 k n1) (Eq.trans (b := t2 (l4 k n1)) (e2 k n1) (Eq.trans (b := t2 (p4 k a1)) (congrArg t2 (o4 k n1 a1 h1)) (by kernel_rfl))))
def t3 : T3 := fun x4 m1000001 => (some (x4, (m1000001, ())))
theorem e3 (k : Nat) : u3 k = t3 := by kernel_rfl
theorem g3 (k : Nat) : l3 k = u3 k := funext fun _ => funext fun _ => cut_u _ _ _
def p3 (k : Nat) : T3 := t3
theorem o3 (k : Nat) : l3 k = p3 k := (Eq.trans (b := u3 k) (g3 k) (Eq.trans (b := t3) (e3 k) (by kernel_rfl)))
def t1 (f2 : T2) (f3 : T3) : T1 := fun x4 x8 x9 x10 m2 m1000001 => (iteB (decide (x10 < x9)) (wnR x10 (List.length x8) fun q1 => (iteB x4 (f2 true (List.getD x8 q1 (0 : Int)) x8 x9 x10 m2 m1000001) (wnR m2.1 (List.length m1000001) fun q2 => (iteB (List.getD m1000001 q2 false) (wnR (List.getD x8 q1 (0 : Int)) (List.length m1000001) fun q3 => (f2 (notB (List.getD m1000001 q3 false)) (List.getD x8 q1 (0 : Int)) x8 x9 x10 m2 m1000001)) (f2 false (List.getD x8 q1 (0 : Int)) x8 x9 x10 m2 m1000001))))) (f3 x4 m1000001))
theorem e1 (k n1 : Nat) : u1 k (n1 + 1) = t1 (l2 k n1) (l3 k) := by kernel_rfl
theorem g1 (k n1 : Nat) : l1 k (n1 + 1) = u1 k (n1 + 1) := funext fun _ => funext fun _ => funext fun _ => funext fun _ => funext fun _ => funext fun _ => cut_u _ _ _
def p1 (k : Nat) : Nat → T1
  | 0 => fun _ _ _ _ _ _ => none
  | n1 + 1 => t1 (p2 k (p1 k n1)) (p3 k)
theorem o1 (k : Nat) : ∀ n1, l1 k n1 = p1 k n1 := by
  intro n1
  induction n1 with
  | zero => kernel_rfl
  | succ n1 ih => exact (Eq.trans (b := u1 k (n1 + 1)) (g1 k n1) (Eq.trans (b := t1 (l2 k n1) (l3 k)) (e1 k n1) (Eq.trans (b := t1 (p2 k (p1 k n1)) (p3 k)) (congr (congrArg t1 (o2 k n1 (p1 k n1) ih)) (o3 k)) (by kernel_rfl))))
def t0 (f1 : T1) : T0 := fun x0 x1 => (f1 false x0.2 ((List.length x0.2 : Nat) : Int) (0 : Int) x0 x1)
theorem e0 (k : Nat) : u0 k = t0 (l1 k k) := by kernel_rfl
def p0 (k : Nat) : T0 := t0 (p1 k k)
theorem o0 (k : Nat) : u0 k = p0 k := (Eq.trans (b := t0 (l1 k k)) (e0 k) (Eq.trans (b := t0 (p1 k k)) (congrArg t0 (o1 k k)) (by kernel_rfl)))
end Q18
def s_Q18 (a : (Int × (List Int)) × ((List Bool) × Unit)) : Option (Bool × ((List Bool) × Unit)) := Q18.p0 fuel a.1 a.2.1
def F_Q18 : FSpec cx.toNm := { ps := [.val (.agg (.pair (.int .i64) (.slice 3 (.int .i64)))), .io (.slice 4 .bool) (.own .ro)], nres := 1, rt := .bool, rm := .ro, f := s_Q18 }
theorem w_Q18 (a : (Int × (List Int)) × ((List Bool) × Unit)) : runOf (S := cx) Q18.E Q18.h fuel Try.f79 F_Q18.ps F_Q18.rt F_Q18.rm a = F_Q18.f a := Eq.trans (b := Q18.u0 fuel a.1 a.2.1) (by kernel_rfl) (Eq.trans (b := Q18.p0 fuel a.1 a.2.1) (congrFun (congrFun (Q18.o0 fuel) a.1) a.2.1) (by kernel_rfl))
theorem ok_Q18 : FnOk Try.prog F_Q18 79 := fn_of (hn := Q18.h) (E := Q18.E) cxOk (tysT _ _) fs_nil follows Try.func79 (by kernel_rfl) (fun a r h => ⟨fuel, Eq.trans (w_Q18 a) h⟩)
namespace Q19
def E : Env cx := { tys := tys, fs := fsOf [(79, F_Q18)], wr := true }
abbrev R := Option (Unit × ((List Bool) × Unit))
abbrev C := Exit → ST cx → R
noncomputable def b : Code := bodyC Try.f78
def h : Hint := { vs := [0, 1, 2, 4, 6, 9, 10, 11], nil := [], cuts := [(2, ([1, 2, 4], [2, 1000002]), ([], [1000002])), (5, ([1, 2, 4, 9, 10, 11], [2, 1000002]), ([1, 2, 4], [2, 1000002])), (8, ([1, 2, 4, 9, 10, 11], [2, 1000002]), ([1, 2, 4, 9, 10, 11], [2, 1000002]))], ret := ([], [2, 6, 1000002]), ords := [] }
def K0 : C := fin (S := cx) E Try.f78.results.toList .unit .ro [1000002] [((.slice 4 .bool), (.own .ro))]
def c0 : Code := subC b [1]
def K1 (k : Nat) : C := outD h c0 K0
def c1 : Code := subC b [1, 1]
def K3 (k : Nat) : C := outD h c1 (K1 k)
def K5 (k : Nat) : C := blockK 0 (K3 k)
def c2 : Code := subC b [1, 1, 0, 0]
def K6 (k n1 : Nat) : C := loopD E h k c2 (K5 k) n1
def c3 : Code := subC b [1, 1, 0, 0, 1]
def K7 (k n1 : Nat) : C := outD h c3 (K6 k n1)
def K11 (k n1 : Nat) : C := blockK 1 (K7 k n1)
def c5 : Code := subC b [1, 1, 0, 0, 1, 0, 1]
def K12 (k n1 : Nat) : C := outD h c5 (K11 k n1)
def c6 : Code := subC b [1, 1, 0, 0, 1, 0, 1, 1]
def K14 (k n1 : Nat) : C := outD h c6 (K12 k n1)
def K16 (k n1 : Nat) : C := blockK 2 (K14 k n1)
def c7 : Code := subC b [1, 1, 0, 0, 1, 0, 1, 1, 0, 0]
def K17 (k n1 n2 : Nat) : C := loopD E h k c7 (K16 k n1) n2
def c8 : Code := subC b [1, 1, 0, 0, 1, 0, 1, 1, 0, 0, 1]
def K18 (k n1 n2 : Nat) : C := outD h c8 (K17 k n1 n2)
def c9 : Code := subC b [1, 1, 0, 0, 1, 0, 1, 1, 0, 0, 1, 1]
def K20 (k n1 n2 : Nat) : C := outD h c9 (K18 k n1 n2)
def c10 : Code := subC b [1, 1, 0, 0, 1, 0, 1, 1, 0, 0, 1, 1, 1]
def K22 (k n1 n2 : Nat) : C := outD h c10 (K20 k n1 n2)
abbrev T3 := Bool → (List (Int × (List Int))) → Int → Int → D0 → (List Bool) → R
abbrev T2 := Bool → (List (Int × (List Int))) → Int → Int → D0 → (List Bool) → R
abbrev T1 := Bool → D0 → (List Bool) → R
abbrev T0 := D0 → Unit → (List Bool) → R
abbrev s3 := fun x4 x9 x10 x11 m2 m1000002 => (⟨[(1, .fn 79 [.m 1000002]), (2, .addr (.mem 2) []), (4, .v .bool .ro x4), (9, .v (.slice 41 (.agg (.pair (.int .i64) (.slice 3 (.int .i64))))) .ro x9), (10, .v (.int .i64) .ro x10), (11, .v (.int .i64) .ro x11)], [], [(2, ⟨ty0, .ro, m2⟩), (1000002, ⟨(.slice 4 .bool), (.own .ro), m1000002⟩)]⟩ : ST cx)
def u3 (k n1 n2 : Nat) : T3 := fun x4 x9 x10 x11 m2 m1000002 => uK (run E h k c10) (s3 x4 x9 x10 x11 m2 m1000002) (K22 k n1 n2)
abbrev l3 (k n1 n2 : Nat) : T3 := fun x4 x9 x10 x11 m2 m1000002 => cutK (run E h k c10) (s3 x4 x9 x10 x11 m2 m1000002) (K22 k n1 n2)
abbrev s2 := fun x4 x9 x10 x11 m2 m1000002 => (⟨[(1, .fn 79 [.m 1000002]), (2, .addr (.mem 2) []), (4, .v .bool .ro x4), (9, .v (.slice 41 (.agg (.pair (.int .i64) (.slice 3 (.int .i64))))) .ro x9), (10, .v (.int .i64) .ro x10), (11, .v (.int .i64) .ro x11)], [], [(2, ⟨ty0, .ro, m2⟩), (1000002, ⟨(.slice 4 .bool), (.own .ro), m1000002⟩)]⟩ : ST cx)
def u2 (k n1 n2 : Nat) : T2 := fun x4 x9 x10 x11 m2 m1000002 => uK (loopL E h k c7 (K16 k n1) n2) (s2 x4 x9 x10 x11 m2 m1000002) ()
abbrev l2 (k n1 n2 : Nat) : T2 := fun x4 x9 x10 x11 m2 m1000002 => cutK (loopL E h k c7 (K16 k n1) n2) (s2 x4 x9 x10 x11 m2 m1000002) ()
abbrev s1 := fun x4 m2 m1000002 => (⟨[(1, .fn 79 [.m 1000002]), (2, .addr (.mem 2) []), (4, .v .bool .ro x4)], [], [(2, ⟨ty0, .ro, m2⟩), (1000002, ⟨(.slice 4 .bool), (.own .ro), m1000002⟩)]⟩ : ST cx)
def u1 (k n1 : Nat) : T1 := fun x4 m2 m1000002 => uK (loopL E h k c2 (K5 k) n1) (s1 x4 m2 m1000002) ()
abbrev l1 (k n1 : Nat) : T1 := fun x4 m2 m1000002 => cutK (loopL E h k c2 (K5 k) n1) (s1 x4 m2 m1000002) ()
def u0 (k : Nat) : T0 := fun x0 x1 x2 => runOf (S := cx) E h k Try.f78 [.val ty0, .fn 79 1, .io (.slice 4 .bool) (.own .ro)] .unit .ro (x0, x1, x2, ())
def t3 (f2 : T2) : T3 := fun x4 x9 x10 x11 m2 m1000002 => (f2 x4 x9 x10 (w64 (x11 + (1 : Int))) m2 m1000002)
theorem e3 (k n1 n2 : Nat) : u3 k n1 n2 = t3 (l2 k n1 n2) := by kernel_rfl
theorem g3 (k n1 n2 : Nat) : l3 k n1 n2 = u3 k n1 n2 := funext fun _ => funext fun _ => funext fun _ => funext fun _ => funext fun _ => funext fun _ => cut_u _ _ _
def p3 (k : Nat) (a1 : T1) (a2 : T2) : T3 := t3 a2
theorem o3 (k n1 n2 : Nat) (a1 : T1) (a2 : T2) (h1 : l1 k n1 = a1) (h2 : l2 k n1 n2 = a2) : l3 k n1 n2 = p3 k a1 a2 := (Eq.trans (b := u3 k n1 n2) (g3 k n1 n2) (Eq.trans (b := t3 (l2 k n1 n2)) (e3 k n1 n2) (Eq.trans (b := t3 a2) (congrArg t3 h2) (by kernel_rfl))))
def t2 (f3 : T3) (f1 : T1) : T2 := fun x4 x9 x10 x11 m2 m1000002 => (iteB (decide (x11 < x10)) (wnR x11 (List.length x9) fun q1 => (bindR (s_Q18 ((List.getD x9 q1 ((0 : Int), ([] : List Int))), (m1000002, ()))) fun r2 => (iteB r2.1 (f3 true x9 x10 x11 m2 r2.2.1) (f3 x4 x9 x10 x11 m2 r2.2.1)))) (f1 x4 m2 m1000002))
theorem e2 (k n1 n2 : Nat) : u2 k n1 (n2 + 1) = t2 (l3 k n1 n2) (l1 k n1) := by kernel_rfl
theorem g2 (k n1 n2 : Nat) : l2 k n1 (n2 + 1) = u2 k n1 (n2 + 1) := funext fun _ => funext fun _ => funext fun _ => funext fun _ => funext fun _ => funext fun _ => cut_u _ _ _
def p2 (k : Nat) (a1 : T1) : Nat → T2
  | 0 => fun _ _ _ _ _ _ => none
  | n2 + 1 => t2 (p3 k a1 (p2 k a1 n2)) a1
theorem o2 (k n1 : Nat) (a1 : T1) (h1 : l1 k n1 = a1) : ∀ n2, l2 k n1 n2 = p2 k a1 n2 := by
  intro n2
  induction n2 with
  | zero => kernel_rfl
  | succ n2 ih => exact (Eq.trans (b := u2 k n1 (n2 + 1)) (g2 k n1 n2) (Eq.trans (b := t2 (l3 k n1 n2) (l1 k n1)) (e2 k n1 n2) (Eq.trans (b := t2 (p3 k a1 (p2 k a1 n2)) a1) (congr (congrArg t2 (o3 k n1 n2 a1 (p2 k a1 n2) h1 ih)) h1) (by kernel_rfl))))
def t1 (f2 : T2) : T1 := fun x4 m2 m1000002 => (iteB x4 (f2 false m2.2.2.2.1 ((List.length m2.2.2.2.1 : Nat) : Int) (0 : Int) m2 m1000002) (some ((), (m1000002, ()))))
theorem e1 (k n1 : Nat) : u1 k (n1 + 1) = t1 (l2 k n1 k) := by kernel_rfl
theorem g1 (k n1 : Nat) : l1 k (n1 + 1) = u1 k (n1 + 1) := funext fun _ => funext fun _ => funext fun _ => cut_u _ _ _
def p1 (k : Nat) : Nat → T1
  | 0 => fun _ _ _ => none
  | n1 + 1 => t1 (p2 k (p1 k n1) k)
theorem o1 (k : Nat) : ∀ n1, l1 k n1 = p1 k n1 := by
  intro n1
  induction n1 with
  | zero => kernel_rfl
  | succ n1 ih => exact (Eq.trans (b := u1 k (n1 + 1)) (g1 k n1) (Eq.trans (b := t1 (l2 k n1 k)) (e1 k n1) (Eq.trans (b := t1 (p2 k (p1 k n1) k)) (congrArg t1 (o2 k n1 (p1 k n1) ih k)) (by kernel_rfl))))
def t0 (f1 : T1) : T0 := fun x0 x1 x2 => (f1 true x0 x2)
theorem e0 (k : Nat) : u0 k = t0 (l1 k k) := by kernel_rfl
def p0 (k : Nat) : T0 := t0 (p1 k k)
theorem o0 (k : Nat) : u0 k = p0 k := (Eq.trans (b := t0 (l1 k k)) (e0 k) (Eq.trans (b := t0 (p1 k k)) (congrArg t0 (o1 k k)) (by kernel_rfl)))
end Q19
def s_Q19 (a : D0 × (Unit × ((List Bool) × Unit))) : Option (Unit × ((List Bool) × Unit)) := Q19.p0 fuel a.1 a.2.1 a.2.2.1
def F_Q19 : FSpec cx.toNm := { ps := [.val ty0, .fn 79 1, .io (.slice 4 .bool) (.own .ro)], nres := 0, rt := .unit, rm := .ro, f := s_Q19 }
theorem w_Q19 (a : D0 × (Unit × ((List Bool) × Unit))) : runOf (S := cx) Q19.E Q19.h fuel Try.f78 F_Q19.ps F_Q19.rt F_Q19.rm a = F_Q19.f a := Eq.trans (b := Q19.u0 fuel a.1 a.2.1 a.2.2.1) (by kernel_rfl) (Eq.trans (b := Q19.p0 fuel a.1 a.2.1 a.2.2.1) (congrFun (congrFun (congrFun (Q19.o0 fuel) a.1) a.2.1) a.2.2.1) (by kernel_rfl))
theorem ok_Q19 : FnOk Try.prog F_Q19 78 := fn_of (hn := Q19.h) (E := Q19.E) cxOk (tysT _ _) (fs_cons ok_Q18 fs_nil) follows Try.func78 (by kernel_rfl) (fun a r h => ⟨fuel, Eq.trans (w_Q19 a) h⟩)
namespace Q20
def E : Env cx := { tys := tys, fs := fsOf [(78, F_Q19)], wr := true }
abbrev R := Option ((List Bool) × Unit)
abbrev C := Exit → ST cx → R
noncomputable def b : Code := bodyC Try.f63
def h : Hint := { vs := [0, 1, 2, 3], nil := [(3, (.own .ro))], cuts := [], ret := ([2], [1, 3]), ords := [], fns := [(13, [true])] }
abbrev T0 := D0 → R
def u0 (k : Nat) : T0 := fun x0 => runOf (S := cx) E h k Try.f63 [.val ty0] (.slice 4 .bool) .ro (x0, ())
def t0 : T0 := fun x0 => (mustR (decide (((List.length x0.1 : Nat) : Int) = ((List.length x0.1 : Nat) : Int) ∧ (0 : Int) ≤ ((List.length x0.1 : Nat) : Int) ∧ ((List.length x0.1 : Nat) : Int) ≤ (16777216 : Int))) (wnR x0.2.2.1 (List.length (List.replicate (Int.toNat ((List.length x0.1 : Nat) : Int)) false)) fun q1 => (bindR (s_Q19 (x0, ((), ((List.set (List.replicate (Int.toNat ((List.length x0.1 : Nat) : Int)) false) q1 true), ())))) fun r2 => (some (r2.2.1, ())))))
theorem e0 (k : Nat) : u0 k = t0 := by kernel_rfl
def p0 (k : Nat) : T0 := t0
theorem o0 (k : Nat) : u0 k = p0 k := (Eq.trans (b := t0) (e0 k) (by kernel_rfl))
end Q20
def s_Q20 (a : D0 × Unit) : Option ((List Bool) × Unit) := Q20.p0 fuel a.1
def F_Q20 : FSpec cx.toNm := { ps := [.val ty0], nres := 1, rt := (.slice 4 .bool), rm := .ro, f := s_Q20 }
theorem w_Q20 (a : D0 × Unit) : runOf (S := cx) Q20.E Q20.h fuel Try.f63 F_Q20.ps F_Q20.rt F_Q20.rm a = F_Q20.f a := Eq.trans (b := Q20.u0 fuel a.1) (by kernel_rfl) (Eq.trans (b := Q20.p0 fuel a.1) (congrFun (Q20.o0 fuel) a.1) (by kernel_rfl))
theorem ok_Q20 : FnOk Try.prog F_Q20 63 := fn_of (hn := Q20.h) (E := Q20.E) cxOk (tysT _ _) (fs_cons ok_Q19 fs_nil) follows Try.func63 (by kernel_rfl) (fun a r h => ⟨fuel, Eq.trans (w_Q20 a) h⟩)
namespace Q21
def E : Env cx := { tys := tys, fs := fsOf [] }
abbrev R := Option (Bool × Unit)
abbrev C := Exit → ST cx → R
noncomputable def b : Code := bodyC Try.f56
def h : Hint := { vs := [0, 1, 2, 4], nil := [], cuts := [], ret := ([4], [2]), ords := [] }
abbrev T0 := D0 → Int → R
def u0 (k : Nat) : T0 := fun x0 x1 => runOf (S := cx) E h k Try.f56 [.val ty0, .val (.int .i64)] .bool .ro (x0, x1, ())
def t0 : T0 := fun x0 x1 => (iteB (decide (x0.2.1 < x1)) (some ((decide (x1 < ((List.length x0.1 : Nat) : Int))), ())) (some (false, ())))
theorem e0 (k : Nat) : u0 k = t0 := by kernel_rfl
def p0 (k : Nat) : T0 := t0
theorem o0 (k : Nat) : u0 k = p0 k := (Eq.trans (b := t0) (e0 k) (by kernel_rfl))
end Q21
def s_Q21 (a : D0 × (Int × Unit)) : Option (Bool × Unit) := Q21.p0 fuel a.1 a.2.1
def F_Q21 : FSpec cx.toNm := { ps := [.val ty0, .val (.int .i64)], nres := 1, rt := .bool, rm := .ro, f := s_Q21 }
theorem w_Q21 (a : D0 × (Int × Unit)) : runOf (S := cx) Q21.E Q21.h fuel Try.f56 F_Q21.ps F_Q21.rt F_Q21.rm a = F_Q21.f a := Eq.trans (b := Q21.u0 fuel a.1 a.2.1) (by kernel_rfl) (Eq.trans (b := Q21.p0 fuel a.1 a.2.1) (congrFun (congrFun (Q21.o0 fuel) a.1) a.2.1) (by kernel_rfl))
theorem ok_Q21 : FnOk Try.prog F_Q21 56 := fn_of (hn := Q21.h) (E := Q21.E) cxOk (tysT _ _) fs_nil follows Try.func56 (by kernel_rfl) (fun a r h => ⟨fuel, Eq.trans (w_Q21 a) h⟩)
namespace Q22
def E : Env cx := { tys := tys, fs := fsOf [] }
abbrev R := Option (Bool × Unit)
abbrev C := Exit → ST cx → R
noncomputable def b : Code := bodyC Try.f55
def h : Hint := { vs := [0, 1, 2, 4], nil := [], cuts := [], ret := ([4], [2]), ords := [] }
abbrev T0 := D0 → Int → R
def u0 (k : Nat) : T0 := fun x0 x1 => runOf (S := cx) E h k Try.f55 [.val ty0, .val (.int .i64)] .bool .ro (x0, x1, ())
def t0 : T0 := fun x0 x1 => (iteB (decide ((0 : Int) ≤ x1)) (some ((decide (x1 < x0.2.1)), ())) (some (false, ())))
theorem e0 (k : Nat) : u0 k = t0 := by kernel_rfl
def p0 (k : Nat) : T0 := t0
theorem o0 (k : Nat) : u0 k = p0 k := (Eq.trans (b := t0) (e0 k) (by kernel_rfl))
end Q22
def s_Q22 (a : D0 × (Int × Unit)) : Option (Bool × Unit) := Q22.p0 fuel a.1 a.2.1
def F_Q22 : FSpec cx.toNm := { ps := [.val ty0, .val (.int .i64)], nres := 1, rt := .bool, rm := .ro, f := s_Q22 }
theorem w_Q22 (a : D0 × (Int × Unit)) : runOf (S := cx) Q22.E Q22.h fuel Try.f55 F_Q22.ps F_Q22.rt F_Q22.rm a = F_Q22.f a := Eq.trans (b := Q22.u0 fuel a.1 a.2.1) (by kernel_rfl) (Eq.trans (b := Q22.p0 fuel a.1 a.2.1) (congrFun (congrFun (Q22.o0 fuel) a.1) a.2.1) (by kernel_rfl))
theorem ok_Q22 : FnOk Try.prog F_Q22 55 := fn_of (hn := Q22.h) (E := Q22.E) cxOk (tysT _ _) fs_nil follows Try.func55 (by kernel_rfl) (fun a r h => ⟨fuel, Eq.trans (w_Q22 a) h⟩)
namespace Q23
def E : Env cx := { tys := tys, fs := fsOf [(55, F_Q22), (56, F_Q21)] }
abbrev R := Option (Bool × Unit)
abbrev C := Exit → ST cx → R
noncomputable def b : Code := bodyC Try.f54
def h : Hint := { vs := [0, 1, 3], nil := [], cuts := [], ret := ([3], []), ords := [] }
abbrev T0 := Int → D0 → R
def u0 (k : Nat) : T0 := fun x0 x1 => runOf (S := cx) E h k Try.f54 [.val (.int .i64), .val (.box ty0)] .bool .ro (x0, x1, ())
def t0 : T0 := fun x0 x1 => (bindR (s_Q22 (x1, (x0, ()))) fun r1 => (iteB r1.1 (some (true, ())) (bindR (s_Q21 (x1, (x0, ()))) fun r2 => (some (r2.1, ())))))
theorem e0 (k : Nat) : u0 k = t0 := by kernel_rfl
def p0 (k : Nat) : T0 := t0
theorem o0 (k : Nat) : u0 k = p0 k := (Eq.trans (b := t0) (e0 k) (by kernel_rfl))
end Q23
def s_Q23 (a : Int × (D0 × Unit)) : Option (Bool × Unit) := Q23.p0 fuel a.1 a.2.1
def F_Q23 : FSpec cx.toNm := { ps := [.val (.int .i64), .val (.box ty0)], nres := 1, rt := .bool, rm := .ro, f := s_Q23 }
theorem w_Q23 (a : Int × (D0 × Unit)) : runOf (S := cx) Q23.E Q23.h fuel Try.f54 F_Q23.ps F_Q23.rt F_Q23.rm a = F_Q23.f a := Eq.trans (b := Q23.u0 fuel a.1 a.2.1) (by kernel_rfl) (Eq.trans (b := Q23.p0 fuel a.1 a.2.1) (congrFun (congrFun (Q23.o0 fuel) a.1) a.2.1) (by kernel_rfl))
theorem ok_Q23 : FnOk Try.prog F_Q23 54 := fn_of (hn := Q23.h) (E := Q23.E) cxOk (tysT _ _) (fs_cons ok_Q22 (fs_cons ok_Q21 fs_nil)) follows Try.func54 (by kernel_rfl) (fun a r h => ⟨fuel, Eq.trans (w_Q23 a) h⟩)
namespace Q24
def E : Env cx := { tys := tys, fs := fsOf [(54, F_Q23)] }
abbrev R := Option (Bool × Unit)
abbrev C := Exit → ST cx → R
noncomputable def b : Code := bodyC Try.f75
def h : Hint := { vs := [0, 1, 3], nil := [], cuts := [], ret := ([3], []), ords := [] }
abbrev T0 := Int → (D0 × Unit) → R
def u0 (k : Nat) : T0 := fun x0 x1 => runOf (S := cx) E h k Try.f75 [.val (.int .i64), .val (.box (.clo 54 (.pair (.box ty0) .unit)))] .bool .ro (x0, x1, ())
def t0 : T0 := fun x0 x1 => (bindR (s_Q23 (x0, (x1.1, ()))) fun r1 => (some ((notB r1.1), ())))
theorem e0 (k : Nat) : u0 k = t0 := by kernel_rfl
def p0 (k : Nat) : T0 := t0
theorem o0 (k : Nat) : u0 k = p0 k := (Eq.trans (b := t0) (e0 k) (by kernel_rfl))
end Q24
def s_Q24 (a : Int × ((D0 × Unit) × Unit)) : Option (Bool × Unit) := Q24.p0 fuel a.1 a.2.1
def F_Q24 : FSpec cx.toNm := { ps := [.val (.int .i64), .val (.box (.clo 54 (.pair (.box ty0) .unit)))], nres := 1, rt := .bool, rm := .ro, f := s_Q24 }
theorem w_Q24 (a : Int × ((D0 × Unit) × Unit)) : runOf (S := cx) Q24.E Q24.h fuel Try.f75 F_Q24.ps F_Q24.rt F_Q24.rm a = F_Q24.f a := Eq.trans (b := Q24.u0 fuel a.1 a.2.1) (by kernel_rfl) (Eq.trans (b := Q24.p0 fuel a.1 a.2.1) (congrFun (congrFun (Q24.o0 fuel) a.1) a.2.1) (by kernel_rfl))
theorem ok_Q24 : FnOk Try.prog F_Q24 75 := fn_of (hn := Q24.h) (E := Q24.E) cxOk (tysT _ _) (fs_cons ok_Q23 fs_nil) follows Try.func75 (by kernel_rfl) (fun a r h => ⟨fuel, Eq.trans (w_Q24 a) h⟩)
namespace Q25
def E : Env cx := { tys := tys, fs := fsOf [(75, F_Q24)] }
abbrev R := Option (Int × Unit)
abbrev C := Exit → ST cx → R
noncomputable def b : Code := bodyC Try.f76
def h : Hint := { vs := [0, 1, 4, 5, 7, 8], nil := [], cuts := [(2, ([0, 1, 7, 8], []), ([], [])), (7, ([], []), ([], []))], ret := ([4], []), ords := [] }
def K0 : C := fin (S := cx) E Try.f76.results.toList (.int .i64) .ro [] []
def c0 : Code := subC b [1]
def K1 (k : Nat) : C := outD h c0 K0
def c1 : Code := subC b [1, 1]
def K3 (k : Nat) : C := outD h c1 (K1 k)
def K4 (k : Nat) : C := seqC E h k c1 (K1 k)
def c2 : Code := subC b [1, 0, 1]
def K5 (k : Nat) : C := outD h c2 (K4 k)
def K7 (k : Nat) : C := blockK 0 (K5 k)
def c3 : Code := subC b [1, 0, 1, 0, 0]
abbrev T2 := R
abbrev T1 := (List Int) → ((D0 × Unit) × Unit) → Int → Int → R
abbrev T0 := (List Int) → ((D0 × Unit) × Unit) → R
abbrev s2 : ST cx := (⟨[], [], []⟩ : ST cx)
def u2 (k : Nat) : T2 := uK (run E h k c1) s2 (K3 k)
abbrev l2 (k : Nat) : T2 := cutK (run E h k c1) s2 (K3 k)
abbrev s1 := fun x0 x1 x7 x8 => (⟨[(0, .v (.slice 3 (.int .i64)) .ro x0), (1, .v (.clo 75 (.pair (.box (.clo 54 (.pair (.box ty0) .unit))) .unit)) .ro x1), (7, .v (.int .i64) .ro x7), (8, .v (.int .i64) .ro x8)], [], []⟩ : ST cx)
def u1 (k n1 : Nat) : T1 := fun x0 x1 x7 x8 => uK (loopL E h k c3 (K7 k) n1) (s1 x0 x1 x7 x8) ()
abbrev l1 (k n1 : Nat) : T1 := fun x0 x1 x7 x8 => cutK (loopL E h k c3 (K7 k) n1) (s1 x0 x1 x7 x8) ()
def u0 (k : Nat) : T0 := fun x0 x1 => runOf (S := cx) E h k Try.f76 [.val (.slice 3 (.int .i64)), .val (.clo 75 (.pair (.box (.clo 54 (.pair (.box ty0) .unit))) .unit))] (.int .i64) .ro (x0, x1, ())
def t2 : T2 := 
  (some ((-1 : Int), ()))
theorem e2 (k : Nat) : u2 k = t2 := by kernel_rfl
theorem g2 (k : Nat) : l2 k = u2 k := cut_u _ _ _
def p2 (k : Nat) : T2 := t2
theorem o2 (k : Nat) : l2 k = p2 k := (Eq.trans (b := u2 k) (g2 k) (Eq.trans (b := t2) (e2 k) (by kernel_rfl)))
def t1 (f1 : T1) (f2 : T2) : T1 := fun x0 x1 x7 x8 => (iteB (decide (x8 < x7)) (wnR x8 (List.length x0) fun q1 => (bindR (s_Q24 ((List.getD x0 q1 (0 : Int)), (x1.1, ()))) fun r2 => (iteB r2.1 (some (x8, ())) (f1 x0 x1 x7 (w64 (x8 + (1 : Int))))))) f2)
theorem e1 (k n1 : Nat) : u1 k (n1 + 1) = t1 (l1 k n1) (l2 k) := by kernel_rfl
theorem g1 (k n1 : Nat) : l1 k (n1 + 1) = u1 k (n1 + 1) := funext fun _ => funext fun _ => funext fun _ => funext fun _ => cut_u _ _ _
def p1 (k : Nat) : Nat → T1
  | 0 => fun _ _ _ _ => none
  | n1 + 1 => t1 (p1 k n1) (p2 k)
theorem o1 (k : Nat) : ∀ n1, l1 k n1 = p1 k n1 := by
  intro n1
  induction n1 with
  | zero => kernel_rfl
  | succ n1 ih => exact (Eq.trans (b := u1 k (n1 + 1)) (g1 k n1) (Eq.trans (b := t1 (l1 k n1) (l2 k)) (e1 k n1) (Eq.trans (b := t1 (p1 k n1) (p2 k)) (congr (congrArg t1 ih) (o2 k)) (by kernel_rfl))))
def t0 (f1 : T1) : T0 := fun x0 x1 => (f1 x0 x1 ((List.length x0 : Nat) : Int) (0 : Int))
theorem e0 (k : Nat) : u0 k = t0 (l1 k k) := by kernel_rfl
def p0 (k : Nat) : T0 := t0 (p1 k k)
theorem o0 (k : Nat) : u0 k = p0 k := (Eq.trans (b := t0 (l1 k k)) (e0 k) (Eq.trans (b := t0 (p1 k k)) (congrArg t0 (o1 k k)) (by kernel_rfl)))
end Q25
def s_Q25 (a : (List Int) × (((D0 × Unit) × Unit) × Unit)) : Option (Int × Unit) := Q25.p0 fuel a.1 a.2.1
def F_Q25 : FSpec cx.toNm := { ps := [.val (.slice 3 (.int .i64)), .val (.clo 75 (.pair (.box (.clo 54 (.pair (.box ty0) .unit))) .unit))], nres := 1, rt := (.int .i64), rm := .ro, f := s_Q25 }
theorem w_Q25 (a : (List Int) × (((D0 × Unit) × Unit) × Unit)) : runOf (S := cx) Q25.E Q25.h fuel Try.f76 F_Q25.ps F_Q25.rt F_Q25.rm a = F_Q25.f a := Eq.trans (b := Q25.u0 fuel a.1 a.2.1) (by kernel_rfl) (Eq.trans (b := Q25.p0 fuel a.1 a.2.1) (congrFun (congrFun (Q25.o0 fuel) a.1) a.2.1) (by kernel_rfl))
theorem ok_Q25 : FnOk Try.prog F_Q25 76 := fn_of (hn := Q25.h) (E := Q25.E) cxOk (tysT _ _) (fs_cons ok_Q24 fs_nil) follows Try.func76 (by kernel_rfl) (fun a r h => ⟨fuel, Eq.trans (w_Q25 a) h⟩)
namespace Q26
def E : Env cx := { tys := tys, fs := fsOf [(76, F_Q25)] }
abbrev R := Option (Bool × Unit)
abbrev C := Exit → ST cx → R
noncomputable def b : Code := bodyC Try.f60
def h : Hint := { vs := [0, 1, 4], nil := [], cuts := [], ret := ([4], []), ords := [] }
abbrev T0 := (List Int) → ((D0 × Unit) × Unit) → R
def u0 (k : Nat) : T0 := fun x0 x1 => runOf (S := cx) E h k Try.f60 [.val (.slice 3 (.int .i64)), .val (.clo 75 (.pair (.box (.clo 54 (.pair (.box ty0) .unit))) .unit))] .bool .ro (x0, x1, ())
def t0 : T0 := fun x0 x1 => (bindR (s_Q25 (x0, (x1, ()))) fun r1 => (some ((decide ((0 : Int) ≤ r1.1)), ())))
theorem e0 (k : Nat) : u0 k = t0 := by kernel_rfl
def p0 (k : Nat) : T0 := t0
theorem o0 (k : Nat) : u0 k = p0 k := (Eq.trans (b := t0) (e0 k) (by kernel_rfl))
end Q26
def s_Q26 (a : (List Int) × (((D0 × Unit) × Unit) × Unit)) : Option (Bool × Unit) := Q26.p0 fuel a.1 a.2.1
def F_Q26 : FSpec cx.toNm := { ps := [.val (.slice 3 (.int .i64)), .val (.clo 75 (.pair (.box (.clo 54 (.pair (.box ty0) .unit))) .unit))], nres := 1, rt := .bool, rm := .ro, f := s_Q26 }
theorem w_Q26 (a : (List Int) × (((D0 × Unit) × Unit) × Unit)) : runOf (S := cx) Q26.E Q26.h fuel Try.f60 F_Q26.ps F_Q26.rt F_Q26.rm a = F_Q26.f a := Eq.trans (b := Q26.u0 fuel a.1 a.2.1) (by kernel_rfl) (Eq.trans (b := Q26.p0 fuel a.1 a.2.1) (congrFun (congrFun (Q26.o0 fuel) a.1) a.2.1) (by kernel_rfl))
theorem ok_Q26 : FnOk Try.prog F_Q26 60 := fn_of (hn := Q26.h) (E := Q26.E) cxOk (tysT _ _) (fs_cons ok_Q25 fs_nil) follows Try.func60 (by kernel_rfl) (fun a r h => ⟨fuel, Eq.trans (w_Q26 a) h⟩)
namespace Q27
def E : Env cx := { tys := tys, fs := fsOf [(60, F_Q26)] }
abbrev R := Option (Bool × Unit)
abbrev C := Exit → ST cx → R
noncomputable def b : Code := bodyC Try.f59
def h : Hint := { vs := [0, 1, 2, 3, 4], nil := [], cuts := [], ret := ([4], [2, 3]), ords := [] }
abbrev T0 := (Int × (List Int)) → (D0 × Unit) → R
def u0 (k : Nat) : T0 := fun x0 x1 => runOf (S := cx) E h k Try.f59 [.val (.agg (.pair (.int .i64) (.slice 3 (.int .i64)))), .val (.clo 54 (.pair (.box ty0) .unit))] .bool .ro (x0, x1, ())
def t0 : T0 := fun x0 x1 => (bindR (s_Q26 (x0.2, ((x1, ()), ()))) fun r1 => (some ((notB r1.1), ())))
theorem e0 (k : Nat) : u0 k = t0 := by kernel_rfl
def p0 (k : Nat) : T0 := t0
theorem o0 (k : Nat) : u0 k = p0 k := (Eq.trans (b := t0) (e0 k) (by kernel_rfl))
end Q27
def s_Q27 (a : (Int × (List Int)) × ((D0 × Unit) × Unit)) : Option (Bool × Unit) := Q27.p0 fuel a.1 a.2.1
def F_Q27 : FSpec cx.toNm := { ps := [.val (.agg (.pair (.int .i64) (.slice 3 (.int .i64)))), .val (.clo 54 (.pair (.box ty0) .unit))], nres := 1, rt := .bool, rm := .ro, f := s_Q27 }
theorem w_Q27 (a : (Int × (List Int)) × ((D0 × Unit) × Unit)) : runOf (S := cx) Q27.E Q27.h fuel Try.f59 F_Q27.ps F_Q27.rt F_Q27.rm a = F_Q27.f a := Eq.trans (b := Q27.u0 fuel a.1 a.2.1) (by kernel_rfl) (Eq.trans (b := Q27.p0 fuel a.1 a.2.1) (congrFun (congrFun (Q27.o0 fuel) a.1) a.2.1) (by kernel_rfl))
theorem ok_Q27 : FnOk Try.prog F_Q27 59 := fn_of (hn := Q27.h) (E := Q27.E) cxOk (tysT _ _) (fs_cons ok_Q26 fs_nil) follows Try.func59 (by kernel_rfl) (fun a r h => ⟨fuel, Eq.trans (w_Q27 a) h⟩)
namespace Q28
def E : Env cx := { tys := tys, fs := fsOf [(56, F_Q21), (59, F_Q27)] }
abbrev R := Option (Bool × Unit)
abbrev C := Exit → ST cx → R
noncomputable def b : Code := bodyC Try.f58
def h : Hint := { vs := [0, 1, 2, 3, 4], nil := [], cuts := [], ret := ([4], [3]), ords := [] }
abbrev T0 := (Int × (List Int)) → D0 → (D0 × Unit) → R
def u0 (k : Nat) : T0 := fun x0 x1 x2 => runOf (S := cx) E h k Try.f58 [.val (.agg (.pair (.int .i64) (.slice 3 (.int .i64)))), .val (.box ty0), .val (.box (.clo 54 (.pair (.box ty0) .unit)))] .bool .ro (x0, x1, x2, ())
def t0 : T0 := fun x0 x1 x2 => (bindR (s_Q21 (x1, (x0.1, ()))) fun r1 => (iteB (notB r1.1) (some (true, ())) (iteB (decide ((8 : Int) < ((List.length x0.2 : Nat) : Int))) (some (true, ())) (bindR (s_Q27 (x0, (x2, ()))) fun r2 => (some ((notB r2.1), ()))))))
theorem e0 (k : Nat) : u0 k = t0 := by kernel_rfl
def p0 (k : Nat) : T0 := t0
theorem o0 (k : Nat) : u0 k = p0 k := (Eq.trans (b := t0) (e0 k) (by kernel_rfl))
end Q28
def s_Q28 (a : (Int × (List Int)) × (D0 × ((D0 × Unit) × Unit))) : Option (Bool × Unit) := Q28.p0 fuel a.1 a.2.1 a.2.2.1
def F_Q28 : FSpec cx.toNm := { ps := [.val (.agg (.pair (.int .i64) (.slice 3 (.int .i64)))), .val (.box ty0), .val (.box (.clo 54 (.pair (.box ty0) .unit)))], nres := 1, rt := .bool, rm := .ro, f := s_Q28 }
theorem w_Q28 (a : (Int × (List Int)) × (D0 × ((D0 × Unit) × Unit))) : runOf (S := cx) Q28.E Q28.h fuel Try.f58 F_Q28.ps F_Q28.rt F_Q28.rm a = F_Q28.f a := Eq.trans (b := Q28.u0 fuel a.1 a.2.1 a.2.2.1) (by kernel_rfl) (Eq.trans (b := Q28.p0 fuel a.1 a.2.1 a.2.2.1) (congrFun (congrFun (congrFun (Q28.o0 fuel) a.1) a.2.1) a.2.2.1) (by kernel_rfl))
theorem ok_Q28 : FnOk Try.prog F_Q28 58 := fn_of (hn := Q28.h) (E := Q28.E) cxOk (tysT _ _) (fs_cons ok_Q21 (fs_cons ok_Q27 fs_nil)) follows Try.func58 (by kernel_rfl) (fun a r h => ⟨fuel, Eq.trans (w_Q28 a) h⟩)
namespace Q29
def E : Env cx := { tys := tys, fs := fsOf [(58, F_Q28)] }
abbrev R := Option (Int × Unit)
abbrev C := Exit → ST cx → R
noncomputable def b : Code := bodyC Try.f74
def h : Hint := { vs := [0, 1, 4, 5, 7, 8], nil := [], cuts := [(2, ([0, 1, 7, 8], []), ([], [])), (7, ([], []), ([], []))], ret := ([4], []), ords := [] }
def K0 : C := fin (S := cx) E Try.f74.results.toList (.int .i64) .ro [] []
def c0 : Code := subC b [1]
def K1 (k : Nat) : C := outD h c0 K0
def c1 : Code := subC b [1, 1]
def K3 (k : Nat) : C := outD h c1 (K1 k)
def K4 (k : Nat) : C := seqC E h k c1 (K1 k)
def c2 : Code := subC b [1, 0, 1]
def K5 (k : Nat) : C := outD h c2 (K4 k)
def K7 (k : Nat) : C := blockK 0 (K5 k)
def c3 : Code := subC b [1, 0, 1, 0, 0]
abbrev T2 := R
abbrev T1 := (List (Int × (List Int))) → (D0 × ((D0 × Unit) × Unit)) → Int → Int → R
abbrev T0 := (List (Int × (List Int))) → (D0 × ((D0 × Unit) × Unit)) → R
abbrev s2 : ST cx := (⟨[], [], []⟩ : ST cx)
def u2 (k : Nat) : T2 := uK (run E h k c1) s2 (K3 k)
abbrev l2 (k : Nat) : T2 := cutK (run E h k c1) s2 (K3 k)
abbrev s1 := fun x0 x1 x7 x8 => (⟨[(0, .v (.slice 41 (.agg (.pair (.int .i64) (.slice 3 (.int .i64))))) .ro x0), (1, .v (.clo 58 (.pair (.box ty0) (.pair (.box (.clo 54 (.pair (.box ty0) .unit))) .unit))) .ro x1), (7, .v (.int .i64) .ro x7), (8, .v (.int .i64) .ro x8)], [], []⟩ : ST cx)
def u1 (k n1 : Nat) : T1 := fun x0 x1 x7 x8 => uK (loopL E h k c3 (K7 k) n1) (s1 x0 x1 x7 x8) ()
abbrev l1 (k n1 : Nat) : T1 := fun x0 x1 x7 x8 => cutK (loopL E h k c3 (K7 k) n1) (s1 x0 x1 x7 x8) ()
def u0 (k : Nat) : T0 := fun x0 x1 => runOf (S := cx) E h k Try.f74 [.val (.slice 41 (.agg (.pair (.int .i64) (.slice 3 (.int .i64))))), .val (.clo 58 (.pair (.box ty0) (.pair (.box (.clo 54 (.pair (.box ty0) .unit))) .unit)))] (.int .i64) .ro (x0, x1, ())
def t2 : T2 := 
  (some ((-1 : Int), ()))
theorem e2 (k : Nat) : u2 k = t2 := by kernel_rfl
theorem g2 (k : Nat) : l2 k = u2 k := cut_u _ _ _
def p2 (k : Nat) : T2 := t2
theorem o2 (k : Nat) : l2 k = p2 k := (Eq.trans (b := u2 k) (g2 k) (Eq.trans (b := t2) (e2 k) (by kernel_rfl)))
def t1 (f1 : T1) (f2 : T2) : T1 := fun x0 x1 x7 x8 => (iteB (decide (x8 < x7)) (wnR x8 (List.length x0) fun q1 => (bindR (s_Q28 ((List.getD x0 q1 ((0 : Int), ([] : List Int))), (x1.1, (x1.2.1, ())))) fun r2 => (iteB r2.1 (some (x8, ())) (f1 x0 x1 x7 (w64 (x8 + (1 : Int))))))) f2)
theorem e1 (k n1 : Nat) : u1 k (n1 + 1) = t1 (l1 k n1) (l2 k) := by kernel_rfl
theorem g1 (k n1 : Nat) : l1 k (n1 + 1) = u1 k (n1 + 1) := funext fun _ => funext fun _ => funext fun _ => funext fun _ => cut_u _ _ _
def p1 (k : Nat) : Nat → T1
  | 0 => fun _ _ _ _ => none
  | n1 + 1 => t1 (p1 k n1) (p2 k)
theorem o1 (k : Nat) : ∀ n1, l1 k n1 = p1 k n1 := by
  intro n1
  induction n1 with
  | zero => kernel_rfl
  | succ n1 ih => exact (Eq.trans (b := u1 k (n1 + 1)) (g1 k n1) (Eq.trans (b := t1 (l1 k n1) (l2 k)) (e1 k n1) (Eq.trans (b := t1 (p1 k n1) (p2 k)) (congr (congrArg t1 ih) (o2 k)) (by kernel_rfl))))
def t0 (f1 : T1) : T0 := fun x0 x1 => (f1 x0 x1 ((List.length x0 : Nat) : Int) (0 : Int))
theorem e0 (k : Nat) : u0 k = t0 (l1 k k) := by kernel_rfl
def p0 (k : Nat) : T0 := t0 (p1 k k)
theorem o0 (k : Nat) : u0 k = p0 k := (Eq.trans (b := t0 (l1 k k)) (e0 k) (Eq.trans (b := t0 (p1 k k)) (congrArg t0 (o1 k k)) (by kernel_rfl)))
end Q29
def s_Q29 (a : (List (Int × (List Int))) × ((D0 × ((D0 × Unit) × Unit)) × Unit)) : Option (Int × Unit) := Q29.p0 fuel a.1 a.2.1
def F_Q29 : FSpec cx.toNm := { ps := [.val (.slice 41 (.agg (.pair (.int .i64) (.slice 3 (.int .i64))))), .val (.clo 58 (.pair (.box ty0) (.pair (.box (.clo 54 (.pair (.box ty0) .unit))) .unit)))], nres := 1, rt := (.int .i64), rm := .ro, f := s_Q29 }
theorem w_Q29 (a : (List (Int × (List Int))) × ((D0 × ((D0 × Unit) × Unit)) × Unit)) : runOf (S := cx) Q29.E Q29.h fuel Try.f74 F_Q29.ps F_Q29.rt F_Q29.rm a = F_Q29.f a := Eq.trans (b := Q29.u0 fuel a.1 a.2.1) (by kernel_rfl) (Eq.trans (b := Q29.p0 fuel a.1 a.2.1) (congrFun (congrFun (Q29.o0 fuel) a.1) a.2.1) (by kernel_rfl))
theorem ok_Q29 : FnOk Try.prog F_Q29 74 := fn_of (hn := Q29.h) (E := Q29.E) cxOk (tysT _ _) (fs_cons ok_Q28 fs_nil) follows Try.func74 (by kernel_rfl) (fun a r h => ⟨fuel, Eq.trans (w_Q29 a) h⟩)
namespace Q30
def E : Env cx := { tys := tys, fs := fsOf [(74, F_Q29)] }
abbrev R := Option (Bool × Unit)
abbrev C := Exit → ST cx → R
noncomputable def b : Code := bodyC Try.f57
def h : Hint := { vs := [0, 1, 4], nil := [], cuts := [], ret := ([4], []), ords := [] }
abbrev T0 := (List (Int × (List Int))) → (D0 × ((D0 × Unit) × Unit)) → R
def u0 (k : Nat) : T0 := fun x0 x1 => runOf (S := cx) E h k Try.f57 [.val (.slice 41 (.agg (.pair (.int .i64) (.slice 3 (.int .i64))))), .val (.clo 58 (.pair (.box ty0) (.pair (.box (.clo 54 (.pair (.box ty0) .unit))) .unit)))] .bool .ro (x0, x1, ())
def t0 : T0 := fun x0 x1 => (bindR (s_Q29 (x0, (x1, ()))) fun r1 => (some ((decide ((0 : Int) ≤ r1.1)), ())))
theorem e0 (k : Nat) : u0 k = t0 := by kernel_rfl
def p0 (k : Nat) : T0 := t0
theorem o0 (k : Nat) : u0 k = p0 k := (Eq.trans (b := t0) (e0 k) (by kernel_rfl))
end Q30
def s_Q30 (a : (List (Int × (List Int))) × ((D0 × ((D0 × Unit) × Unit)) × Unit)) : Option (Bool × Unit) := Q30.p0 fuel a.1 a.2.1
def F_Q30 : FSpec cx.toNm := { ps := [.val (.slice 41 (.agg (.pair (.int .i64) (.slice 3 (.int .i64))))), .val (.clo 58 (.pair (.box ty0) (.pair (.box (.clo 54 (.pair (.box ty0) .unit))) .unit)))], nres := 1, rt := .bool, rm := .ro, f := s_Q30 }
theorem w_Q30 (a : (List (Int × (List Int))) × ((D0 × ((D0 × Unit) × Unit)) × Unit)) : runOf (S := cx) Q30.E Q30.h fuel Try.f57 F_Q30.ps F_Q30.rt F_Q30.rm a = F_Q30.f a := Eq.trans (b := Q30.u0 fuel a.1 a.2.1) (by kernel_rfl) (Eq.trans (b := Q30.p0 fuel a.1 a.2.1) (congrFun (congrFun (Q30.o0 fuel) a.1) a.2.1) (by kernel_rfl))
theorem ok_Q30 : FnOk Try.prog F_Q30 57 := fn_of (hn := Q30.h) (E := Q30.E) cxOk (tysT _ _) (fs_cons ok_Q29 fs_nil) follows Try.func57 (by kernel_rfl) (fun a r h => ⟨fuel, Eq.trans (w_Q30 a) h⟩)
namespace Q31
def E : Env cx := { tys := tys, fs := fsOf [(55, F_Q22)] }
abbrev R := Option (Bool × Unit)
abbrev C := Exit → ST cx → R
noncomputable def b : Code := bodyC Try.f61
def h : Hint := { vs := [0, 1, 3], nil := [], cuts := [], ret := ([3], []), ords := [] }
abbrev T0 := Int → D0 → R
def u0 (k : Nat) : T0 := fun x0 x1 => runOf (S := cx) E h k Try.f61 [.val (.int .i64), .val (.box ty0)] .bool .ro (x0, x1, ())
def t0 : T0 := fun x0 x1 => (iteB (!decide (x0 = (-1 : Int))) (bindR (s_Q22 (x1, (x0, ()))) fun r1 => (some ((notB r1.1), ()))) (some (false, ())))
theorem e0 (k : Nat) : u0 k = t0 := by kernel_rfl
def p0 (k : Nat) : T0 := t0
theorem o0 (k : Nat) : u0 k = p0 k := (Eq.trans (b := t0) (e0 k) (by kernel_rfl))
end Q31
def s_Q31 (a : Int × (D0 × Unit)) : Option (Bool × Unit) := Q31.p0 fuel a.1 a.2.1
def F_Q31 : FSpec cx.toNm := { ps := [.val (.int .i64), .val (.box ty0)], nres := 1, rt := .bool, rm := .ro, f := s_Q31 }
theorem w_Q31 (a : Int × (D0 × Unit)) : runOf (S := cx) Q31.E Q31.h fuel Try.f61 F_Q31.ps F_Q31.rt F_Q31.rm a = F_Q31.f a := Eq.trans (b := Q31.u0 fuel a.1 a.2.1) (by kernel_rfl) (Eq.trans (b := Q31.p0 fuel a.1 a.2.1) (congrFun (congrFun (Q31.o0 fuel) a.1) a.2.1) (by kernel_rfl))
theorem ok_Q31 : FnOk Try.prog F_Q31 61 := fn_of (hn := Q31.h) (E := Q31.E) cxOk (tysT _ _) (fs_cons ok_Q22 fs_nil) follows Try.func61 (by kernel_rfl) (fun a r h => ⟨fuel, Eq.trans (w_Q31 a) h⟩)
namespace Q32
def E : Env cx := { tys := tys, fs := fsOf [(61, F_Q31)] }
abbrev R := Option (Int × Unit)
abbrev C := Exit → ST cx → R
noncomputable def b : Code := bodyC Try.f76
def h : Hint := { vs := [0, 1, 4, 5, 7, 8], nil := [], cuts := [(2, ([0, 1, 7, 8], []), ([], [])), (7, ([], []), ([], []))], ret := ([4], []), ords := [] }
def K0 : C := fin (S := cx) E Try.f76.results.toList (.int .i64) .ro [] []
def c0 : Code := subC b [1]
def K1 (k : Nat) : C := outD h c0 K0
def c1 : Code := subC b [1, 1]
def K3 (k : Nat) : C := outD h c1 (K1 k)
def K4 (k : Nat) : C := seqC E h k c1 (K1 k)
def c2 : Code := subC b [1, 0, 1]
def K5 (k : Nat) : C := outD h c2 (K4 k)
def K7 (k : Nat) : C := blockK 0 (K5 k)
def c3 : Code := subC b [1, 0, 1, 0, 0]
abbrev T2 := R
abbrev T1 := (List Int) → (D0 × Unit) → Int → Int → R
abbrev T0 := (List Int) → (D0 × Unit) → R
abbrev s2 : ST cx := (⟨[], [], []⟩ : ST cx)
def u2 (k : Nat) : T2 := uK (run E h k c1) s2 (K3 k)
abbrev l2 (k : Nat) : T2 := cutK (run E h k c1) s2 (K3 k)
abbrev s1 := fun x0 x1 x7 x8 => (⟨[(0, .v (.slice 3 (.int .i64)) .ro x0), (1, .v (.clo 61 (.pair (.box ty0) .unit)) .ro x1), (7, .v (.int .i64) .ro x7), (8, .v (.int .i64) .ro x8)], [], []⟩ : ST cx)
def u1 (k n1 : Nat) : T1 := fun x0 x1 x7 x8 => uK (loopL E h k c3 (K7 k) n1) (s1 x0 x1 x7 x8) ()
abbrev l1 (k n1 : Nat) : T1 := fun x0 x1 x7 x8 => cutK (loopL E h k c3 (K7 k) n1) (s1 x0 x1 x7 x8) ()
def u0 (k : Nat) : T0 := fun x0 x1 => runOf (S := cx) E h k Try.f76 [.val (.slice 3 (.int .i64)), .val (.clo 61 (.pair (.box ty0) .unit))] (.int .i64) .ro (x0, x1, ())
def t2 : T2 := 
  (some ((-1 : Int), ()))
theorem e2 (k : Nat) : u2 k = t2 := by kernel_rfl
theorem g2 (k : Nat) : l2 k = u2 k := cut_u _ _ _
def p2 (k : Nat) : T2 := t2
theorem o2 (k : Nat) : l2 k = p2 k := (Eq.trans (b := u2 k) (g2 k) (Eq.trans (b := t2) (e2 k) (by kernel_rfl)))
def t1 (f1 : T1) (f2 : T2) : T1 := fun x0 x1 x7 x8 => (iteB (decide (x8 < x7)) (wnR x8 (List.length x0) fun q1 => (bindR (s_Q31 ((List.getD x0 q1 (0 : Int)), (x1.1, ()))) fun r2 => (iteB r2.1 (some (x8, ())) (f1 x0 x1 x7 (w64 (x8 + (1 : Int))))))) f2)
theorem e1 (k n1 : Nat) : u1 k (n1 + 1) = t1 (l1 k n1) (l2 k) := by kernel_rfl
theorem g1 (k n1 : Nat) : l1 k (n1 + 1) = u1 k (n1 + 1) := funext fun _ => funext fun _ => funext fun _ => funext fun _ => cut_u _ _ _
def p1 (k : Nat) : Nat → T1
  | 0 => fun _ _ _ _ => none
  | n1 + 1 => t1 (p1 k n1) (p2 k)
theorem o1 (k : Nat) : ∀ n1, l1 k n1 = p1 k n1 := by
  intro n1
  induction n1 with
  | zero => kernel_rfl
  | succ n1 ih => exact (Eq.trans (b := u1 k (n1 + 1)) (g1 k n1) (Eq.trans (b := t1 (l1 k n1) (l2 k)) (e1 k n1) (Eq.trans (b := t1 (p1 k n1) (p2 k)) (congr (congrArg t1 ih) (o2 k)) (by kernel_rfl))))
def t0 (f1 : T1) : T0 := fun x0 x1 => (f1 x0 x1 ((List.length x0 : Nat) : Int) (0 : Int))
theorem e0 (k : Nat) : u0 k = t0 (l1 k k) := by kernel_rfl
def p0 (k : Nat) : T0 := t0 (p1 k k)
theorem o0 (k : Nat) : u0 k = p0 k := (Eq.trans (b := t0 (l1 k k)) (e0 k) (Eq.trans (b := t0 (p1 k k)) (congrArg t0 (o1 k k)) (by kernel_rfl)))
end Q32
def s_Q32 (a : (List Int) × ((D0 × Unit) × Unit)) : Option (Int × Unit) := Q32.p0 fuel a.1 a.2.1
def F_Q32 : FSpec cx.toNm := { ps := [.val (.slice 3 (.int .i64)), .val (.clo 61 (.pair (.box ty0) .unit))], nres := 1, rt := (.int .i64), rm := .ro, f := s_Q32 }
theorem w_Q32 (a : (List Int) × ((D0 × Unit) × Unit)) : runOf (S := cx) Q32.E Q32.h fuel Try.f76 F_Q32.ps F_Q32.rt F_Q32.rm a = F_Q32.f a := Eq.trans (b := Q32.u0 fuel a.1 a.2.1) (by kernel_rfl) (Eq.trans (b := Q32.p0 fuel a.1 a.2.1) (congrFun (congrFun (Q32.o0 fuel) a.1) a.2.1) (by kernel_rfl))
theorem ok_Q32 : FnOk Try.prog F_Q32 76 := fn_of (hn := Q32.h) (E := Q32.E) cxOk (tysT _ _) (fs_cons ok_Q31 fs_nil) follows Try.func76 (by kernel_rfl) (fun a r h => ⟨fuel, Eq.trans (w_Q32 a) h⟩)
namespace Q33
def E : Env cx := { tys := tys, fs := fsOf [(76, F_Q32)] }
abbrev R := Option (Bool × Unit)
abbrev C := Exit → ST cx → R
noncomputable def b : Code := bodyC Try.f60
def h : Hint := { vs := [0, 1, 4], nil := [], cuts := [], ret := ([4], []), ords := [] }
abbrev T0 := (List Int) → (D0 × Unit) → R
def u0 (k : Nat) : T0 := fun x0 x1 => runOf (S := cx) E h k Try.f60 [.val (.slice 3 (.int .i64)), .val (.clo 61 (.pair (.box ty0) .unit))] .bool .ro (x0, x1, ())
def t0 : T0 := fun x0 x1 => (bindR (s_Q32 (x0, (x1, ()))) fun r1 => (some ((decide ((0 : Int) ≤ r1.1)), ())))
theorem e0 (k : Nat) : u0 k = t0 := by kernel_rfl
def p0 (k : Nat) : T0 := t0
theorem o0 (k : Nat) : u0 k = p0 k := (Eq.trans (b := t0) (e0 k) (by kernel_rfl))
end Q33
def s_Q33 (a : (List Int) × ((D0 × Unit) × Unit)) : Option (Bool × Unit) := Q33.p0 fuel a.1 a.2.1
def F_Q33 : FSpec cx.toNm := { ps := [.val (.slice 3 (.int .i64)), .val (.clo 61 (.pair (.box ty0) .unit))], nres := 1, rt := .bool, rm := .ro, f := s_Q33 }
theorem w_Q33 (a : (List Int) × ((D0 × Unit) × Unit)) : runOf (S := cx) Q33.E Q33.h fuel Try.f60 F_Q33.ps F_Q33.rt F_Q33.rm a = F_Q33.f a := Eq.trans (b := Q33.u0 fuel a.1 a.2.1) (by kernel_rfl) (Eq.trans (b := Q33.p0 fuel a.1 a.2.1) (congrFun (congrFun (Q33.o0 fuel) a.1) a.2.1) (by kernel_rfl))
theorem ok_Q33 : FnOk Try.prog F_Q33 60 := fn_of (hn := Q33.h) (E := Q33.E) cxOk (tysT _ _) (fs_cons ok_Q32 fs_nil) follows Try.func60 (by kernel_rfl) (fun a r h => ⟨fuel, Eq.trans (w_Q33 a) h⟩)
namespace Q34
def E : Env cx := { tys := tys, fs := fsOf [] }
abbrev R := Option (Bool × Unit)
abbrev C := Exit → ST cx → R
noncomputable def b : Code := bodyC Try.f85
def h : Hint := { vs := [0, 1, 4, 5, 12, 13], nil := [], cuts := [(4, ([0, 1, 12, 13], []), ([], [])), (9, ([], []), ([], []))], ret := ([4], []), ords := [] }
def K0 : C := fin (S := cx) E Try.f85.results.toList .bool .ro [] []
def c0 : Code := subC b [1]
def K1 (k : Nat) : C := outD h c0 K0
def c1 : Code := subC b [1, 1]
def K3 (k : Nat) : C := outD h c1 (K1 k)
def c4 : Code := subC b [1, 1, 1]
def K9 (k : Nat) : C := outD h c4 (K3 k)
def K10 (k : Nat) : C := seqC E h k c4 (K3 k)
def c5 : Code := subC b [1, 1, 0, 1]
def K11 (k : Nat) : C := outD h c5 (K10 k)
def K13 (k : Nat) : C := blockK 0 (K11 k)
def c6 : Code := subC b [1, 1, 0, 1, 0, 0]
abbrev T2 := R
abbrev T1 := (List Int) → (List Int) → Int → Int → R
abbrev T0 := (List Int) → (List Int) → R
abbrev s2 : ST cx := (⟨[], [], []⟩ : ST cx)
def u2 (k : Nat) : T2 := uK (run E h k c4) s2 (K9 k)
abbrev l2 (k : Nat) : T2 := cutK (run E h k c4) s2 (K9 k)
abbrev s1 := fun x0 x1 x12 x13 => (⟨[(0, .v (.slice 3 (.int .i64)) .ro x0), (1, .v (.slice 3 (.int .i64)) .ro x1), (12, .v (.int .i64) .ro x12), (13, .v (.int .i64) .ro x13)], [], []⟩ : ST cx)
def u1 (k n1 : Nat) : T1 := fun x0 x1 x12 x13 => uK (loopL E h k c6 (K13 k) n1) (s1 x0 x1 x12 x13) ()
abbrev l1 (k n1 : Nat) : T1 := fun x0 x1 x12 x13 => cutK (loopL E h k c6 (K13 k) n1) (s1 x0 x1 x12 x13) ()
def u0 (k : Nat) : T0 := fun x0 x1 => runOf (S := cx) E h k Try.f85 [.val (.slice 3 (.int .i64)), .val (.slice 3 (.int .i64))] .bool .ro (x0, x1, ())
def t2 : T2 := 
  (some (true, ()))
theorem e2 (k : Nat) : u2 k = t2 := by kernel_rfl
theorem g2 (k : Nat) : l2 k = u2 k := cut_u _ _ _
def p2 (k : Nat) : T2 := t2
theorem o2 (k : Nat) : l2 k = p2 k := (Eq.trans (b := u2 k) (g2 k) (Eq.trans (b := t2) (e2 k) (by kernel_rfl)))
def t1 (f1 : T1) (f2 : T2) : T1 := fun x0 x1 x12 x13 => (iteB (decide (x13 < x12)) (wnR x13 (List.length x0) fun q1 => (wnR x13 (List.length x1) fun q2 => (iteB (!decide ((List.getD x0 q1 (0 : Int)) = (List.getD x1 q2 (0 : Int)))) (some (false, ())) (f1 x0 x1 x12 (w64 (x13 + (1 : Int))))))) f2)
theorem e1 (k n1 : Nat) : u1 k (n1 + 1) = t1 (l1 k n1) (l2 k) := by kernel_rfl
theorem g1 (k n1 : Nat) : l1 k (n1 + 1) = u1 k (n1 + 1) := funext fun _ => funext fun _ => funext fun _ => funext fun _ => cut_u _ _ _
def p1 (k : Nat) : Nat → T1
  | 0 => fun _ _ _ _ => none
  | n1 + 1 => t1 (p1 k n1) (p2 k)
theorem o1 (k : Nat) : ∀ n1, l1 k n1 = p1 k n1 := by
  intro n1
  induction n1 with
  | zero => kernel_rfl
  | succ n1 ih => exact (Eq.trans (b := u1 k (n1 + 1)) (g1 k n1) (Eq.trans (b := t1 (l1 k n1) (l2 k)) (e1 k n1) (Eq.trans (b := t1 (p1 k n1) (p2 k)) (congr (congrArg t1 ih) (o2 k)) (by kernel_rfl))))
def t0 (f1 : T1) : T0 := fun x0 x1 => (iteB (!decide (((List.length x0 : Nat) : Int) = ((List.length x1 : Nat) : Int))) (some (false, ())) (f1 x0 x1 ((List.length x0 : Nat) : Int) (0 : Int)))
theorem e0 (k : Nat) : u0 k = t0 (l1 k k) := by kernel_rfl
def p0 (k : Nat) : T0 := t0 (p1 k k)
theorem o0 (k : Nat) : u0 k = p0 k := (Eq.trans (b := t0 (l1 k k)) (e0 k) (Eq.trans (b := t0 (p1 k k)) (congrArg t0 (o1 k k)) (by kernel_rfl)))
end Q34
def s_Q34 (a : (List Int) × ((List Int) × Unit)) : Option (Bool × Unit) := Q34.p0 fuel a.1 a.2.1
def F_Q34 : FSpec cx.toNm := { ps := [.val (.slice 3 (.int .i64)), .val (.slice 3 (.int .i64))], nres := 1, rt := .bool, rm := .ro, f := s_Q34 }
theorem w_Q34 (a : (List Int) × ((List Int) × Unit)) : runOf (S := cx) Q34.E Q34.h fuel Try.f85 F_Q34.ps F_Q34.rt F_Q34.rm a = F_Q34.f a := Eq.trans (b := Q34.u0 fuel a.1 a.2.1) (by kernel_rfl) (Eq.trans (b := Q34.p0 fuel a.1 a.2.1) (congrFun (congrFun (Q34.o0 fuel) a.1) a.2.1) (by kernel_rfl))
theorem ok_Q34 : FnOk Try.prog F_Q34 85 := fn_of (hn := Q34.h) (E := Q34.E) cxOk (tysT _ _) fs_nil follows Try.func85 (by kernel_rfl) (fun a r h => ⟨fuel, Eq.trans (w_Q34 a) h⟩)
namespace Q35
def E : Env cx := { tys := tys, fs := fsOf [(85, F_Q34)] }
abbrev R := Option (Bool × Unit)
abbrev C := Exit → ST cx → R
noncomputable def b : Code := bodyC Try.f96
def h : Hint := { vs := [0, 1, 2, 3, 4], nil := [], cuts := [], ret := ([4], [3]), ords := [] }
abbrev T0 := (Int × (List Int)) → Int → (List Int) → R
def u0 (k : Nat) : T0 := fun x0 x1 x2 => runOf (S := cx) E h k Try.f96 [.val (.agg (.pair (.int .i64) (.slice 3 (.int .i64)))), .val (.box (.int .i64)), .val (.box (.slice 3 (.int .i64)))] .bool .ro (x0, x1, x2, ())
def t0 : T0 := fun x0 x1 x2 => (iteB (decide (x0.1 = x1)) (bindR (s_Q34 (x0.2, (x2, ()))) fun r1 => (some (r1.1, ()))) (some (false, ())))
theorem e0 (k : Nat) : u0 k = t0 := by kernel_rfl
def p0 (k : Nat) : T0 := t0
theorem o0 (k : Nat) : u0 k = p0 k := (Eq.trans (b := t0) (e0 k) (by kernel_rfl))
end Q35
def s_Q35 (a : (Int × (List Int)) × (Int × ((List Int) × Unit))) : Option (Bool × Unit) := Q35.p0 fuel a.1 a.2.1 a.2.2.1
def F_Q35 : FSpec cx.toNm := { ps := [.val (.agg (.pair (.int .i64) (.slice 3 (.int .i64)))), .val (.box (.int .i64)), .val (.box (.slice 3 (.int .i64)))], nres := 1, rt := .bool, rm := .ro, f := s_Q35 }
theorem w_Q35 (a : (Int × (List Int)) × (Int × ((List Int) × Unit))) : runOf (S := cx) Q35.E Q35.h fuel Try.f96 F_Q35.ps F_Q35.rt F_Q35.rm a = F_Q35.f a := Eq.trans (b := Q35.u0 fuel a.1 a.2.1 a.2.2.1) (by kernel_rfl) (Eq.trans (b := Q35.p0 fuel a.1 a.2.1 a.2.2.1) (congrFun (congrFun (congrFun (Q35.o0 fuel) a.1) a.2.1) a.2.2.1) (by kernel_rfl))
theorem ok_Q35 : FnOk Try.prog F_Q35 96 := fn_of (hn := Q35.h) (E := Q35.E) cxOk (tysT _ _) (fs_cons ok_Q34 fs_nil) follows Try.func96 (by kernel_rfl) (fun a r h => ⟨fuel, Eq.trans (w_Q35 a) h⟩)
namespace Q36
def E : Env cx := { tys := tys, fs := fsOf [(96, F_Q35)] }
abbrev R := Option (Int × Unit)
abbrev C := Exit → ST cx → R
noncomputable def b : Code := bodyC Try.f74
def h : Hint := { vs := [0, 1, 4, 5, 7, 8], nil := [], cuts := [(2, ([0, 1, 7, 8], []), ([], [])), (7, ([], []), ([], []))], ret := ([4], []), ords := [] }
def K0 : C := fin (S := cx) E Try.f74.results.toList (.int .i64) .ro [] []
def c0 : Code := subC b [1]
def K1 (k : Nat) : C := outD h c0 K0
def c1 : Code := subC b [1, 1]
def K3 (k : Nat) : C := outD h c1 (K1 k)
def K4 (k : Nat) : C := seqC E h k c1 (K1 k)
def c2 : Code := subC b [1, 0, 1]
def K5 (k : Nat) : C := outD h c2 (K4 k)
def K7 (k : Nat) : C := blockK 0 (K5 k)
def c3 : Code := subC b [1, 0, 1, 0, 0]
abbrev T2 := R
abbrev T1 := (List (Int × (List Int))) → (Int × ((List Int) × Unit)) → Int → Int → R
abbrev T0 := (List (Int × (List Int))) → (Int × ((List Int) × Unit)) → R
abbrev s2 : ST cx := (⟨[], [], []⟩ : ST cx)
def u2 (k : Nat) : T2 := uK (run E h k c1) s2 (K3 k)
abbrev l2 (k : Nat) : T2 := cutK (run E h k c1) s2 (K3 k)
abbrev s1 := fun x0 x1 x7 x8 => (⟨[(0, .v (.slice 41 (.agg (.pair (.int .i64) (.slice 3 (.int .i64))))) .ro x0), (1, .v (.clo 96 (.pair (.box (.int .i64)) (.pair (.box (.slice 3 (.int .i64))) .unit))) .ro x1), (7, .v (.int .i64) .ro x7), (8, .v (.int .i64) .ro x8)], [], []⟩ : ST cx)
def u1 (k n1 : Nat) : T1 := fun x0 x1 x7 x8 => uK (loopL E h k c3 (K7 k) n1) (s1 x0 x1 x7 x8) ()
abbrev l1 (k n1 : Nat) : T1 := fun x0 x1 x7 x8 => cutK (loopL E h k c3 (K7 k) n1) (s1 x0 x1 x7 x8) ()
def u0 (k : Nat) : T0 := fun x0 x1 => runOf (S := cx) E h k Try.f74 [.val (.slice 41 (.agg (.pair (.int .i64) (.slice 3 (.int .i64))))), .val (.clo 96 (.pair (.box (.int .i64)) (.pair (.box (.slice 3 (.int .i64))) .unit)))] (.int .i64) .ro (x0, x1, ())
def t2 : T2 := 
  (some ((-1 : Int), ()))
theorem e2 (k : Nat) : u2 k = t2 := by kernel_rfl
theorem g2 (k : Nat) : l2 k = u2 k := cut_u _ _ _
def p2 (k : Nat) : T2 := t2
theorem o2 (k : Nat) : l2 k = p2 k := (Eq.trans (b := u2 k) (g2 k) (Eq.trans (b := t2) (e2 k) (by kernel_rfl)))
def t1 (f1 : T1) (f2 : T2) : T1 := fun x0 x1 x7 x8 => (iteB (decide (x8 < x7)) (wnR x8 (List.length x0) fun q1 => (bindR (s_Q35 ((List.getD x0 q1 ((0 : Int), ([] : List Int))), (x1.1, (x1.2.1, ())))) fun r2 => (iteB r2.1 (some (x8, ())) (f1 x0 x1 x7 (w64 (x8 + (1 : Int))))))) f2)
theorem e1 (k n1 : Nat) : u1 k (n1 + 1) = t1 (l1 k n1) (l2 k) := by kernel_rfl
theorem g1 (k n1 : Nat) : l1 k (n1 + 1) = u1 k (n1 + 1) := funext fun _ => funext fun _ => funext fun _ => funext fun _ => cut_u _ _ _
def p1 (k : Nat) : Nat → T1
  | 0 => fun _ _ _ _ => none
  | n1 + 1 => t1 (p1 k n1) (p2 k)
theorem o1 (k : Nat) : ∀ n1, l1 k n1 = p1 k n1 := by
  intro n1
  induction n1 with
  | zero => kernel_rfl
  | succ n1 ih => exact (Eq.trans (b := u1 k (n1 + 1)) (g1 k n1) (Eq.trans (b := t1 (l1 k n1) (l2 k)) (e1 k n1) (Eq.trans (b := t1 (p1 k n1) (p2 k)) (congr (congrArg t1 ih) (o2 k)) (by kernel_rfl))))
def t0 (f1 : T1) : T0 := fun x0 x1 => (f1 x0 x1 ((List.length x0 : Nat) : Int) (0 : Int))
theorem e0 (k : Nat) : u0 k = t0 (l1 k k) := by kernel_rfl
def p0 (k : Nat) : T0 := t0 (p1 k k)
theorem o0 (k : Nat) : u0 k = p0 k := (Eq.trans (b := t0 (l1 k k)) (e0 k) (Eq.trans (b := t0 (p1 k k)) (congrArg t0 (o1 k k)) (by kernel_rfl)))
end Q36
def s_Q36 (a : (List (Int × (List Int))) × ((Int × ((List Int) × Unit)) × Unit)) : Option (Int × Unit) := Q36.p0 fuel a.1 a.2.1
def F_Q36 : FSpec cx.toNm := { ps := [.val (.slice 41 (.agg (.pair (.int .i64) (.slice 3 (.int .i64))))), .val (.clo 96 (.pair (.box (.int .i64)) (.pair (.box (.slice 3 (.int .i64))) .unit)))], nres := 1, rt := (.int .i64), rm := .ro, f := s_Q36 }
theorem w_Q36 (a : (List (Int × (List Int))) × ((Int × ((List Int) × Unit)) × Unit)) : runOf (S := cx) Q36.E Q36.h fuel Try.f74 F_Q36.ps F_Q36.rt F_Q36.rm a = F_Q36.f a := Eq.trans (b := Q36.u0 fuel a.1 a.2.1) (by kernel_rfl) (Eq.trans (b := Q36.p0 fuel a.1 a.2.1) (congrFun (congrFun (Q36.o0 fuel) a.1) a.2.1) (by kernel_rfl))
theorem ok_Q36 : FnOk Try.prog F_Q36 74 := fn_of (hn := Q36.h) (E := Q36.E) cxOk (tysT _ _) (fs_cons ok_Q35 fs_nil) follows Try.func74 (by kernel_rfl) (fun a r h => ⟨fuel, Eq.trans (w_Q36 a) h⟩)
namespace Q37
def E : Env cx := { tys := tys, fs := fsOf [(74, F_Q36)] }
abbrev R := Option (Int × Unit)
abbrev C := Exit → ST cx → R
noncomputable def b : Code := bodyC Try.f92
def h : Hint := { vs := [0, 1, 2, 3, 4, 5, 6], nil := [], cuts := [], ret := ([6], [3, 4, 5]), ords := [] }
abbrev T0 := D0 → Int → (List Int) → R
def u0 (k : Nat) : T0 := fun x0 x1 x2 => runOf (S := cx) E h k Try.f92 [.val ty0, .val (.int .i64), .val (.slice 3 (.int .i64))] (.int .i64) .ro (x0, x1, x2, ())
def t0 : T0 := fun x0 x1 x2 => (bindR (s_Q36 (x0.2.2.2.1, ((x1, (x2, ())), ()))) fun r1 => (some (r1.1, ())))
theorem e0 (k : Nat) : u0 k = t0 := by kernel_rfl
def p0 (k : Nat) : T0 := t0
theorem o0 (k : Nat) : u0 k = p0 k := (Eq.trans (b := t0) (e0 k) (by kernel_rfl))
end Q37
def s_Q37 (a : D0 × (Int × ((List Int) × Unit))) : Option (Int × Unit) := Q37.p0 fuel a.1 a.2.1 a.2.2.1
def F_Q37 : FSpec cx.toNm := { ps := [.val ty0, .val (.int .i64), .val (.slice 3 (.int .i64))], nres := 1, rt := (.int .i64), rm := .ro, f := s_Q37 }
theorem w_Q37 (a : D0 × (Int × ((List Int) × Unit))) : runOf (S := cx) Q37.E Q37.h fuel Try.f92 F_Q37.ps F_Q37.rt F_Q37.rm a = F_Q37.f a := Eq.trans (b := Q37.u0 fuel a.1 a.2.1 a.2.2.1) (by kernel_rfl) (Eq.trans (b := Q37.p0 fuel a.1 a.2.1 a.2.2.1) (congrFun (congrFun (congrFun (Q37.o0 fuel) a.1) a.2.1) a.2.2.1) (by kernel_rfl))
theorem ok_Q37 : FnOk Try.prog F_Q37 92 := fn_of (hn := Q37.h) (E := Q37.E) cxOk (tysT _ _) (fs_cons ok_Q36 fs_nil) follows Try.func92 (by kernel_rfl) (fun a r h => ⟨fuel, Eq.trans (w_Q37 a) h⟩)
namespace Q38
def E : Env cx := { tys := tys, fs := fsOf [] }
abbrev R := Option ((List Int) × Unit)
abbrev C := Exit → ST cx → R
noncomputable def b : Code := bodyC Try.f93
def h : Hint := { vs := [0, 1, 2, 4, 5, 6, 7, 9, 10, 11], nil := [(5, (.own .ro))], cuts := [(3, ([1, 5, 9, 10, 11], []), ([5], [])), (7, ([1, 5, 9, 10, 11], []), ([1, 5, 9, 10, 11], [])), (8, ([5], []), ([5], []))], ret := ([4], [2, 7]), ords := [] }
def K0 : C := fin (S := cx) E Try.f93.results.toList (.slice 3 (.int .i64)) .ro [] []
def c0 : Code := subC b [1]
def K1 (k : Nat) : C := outD h c0 K0
def c1 : Code := subC b [1, 1]
def K3 (k : Nat) : C := outD h c1 (K1 k)
def c2 : Code := subC b [1, 1, 1]
def K5 (k : Nat) : C := outD h c2 (K3 k)
def K6 (k : Nat) : C := seqC E h k c2 (K3 k)
def c3 : Code := subC b [1, 1, 0, 1]
def K7 (k : Nat) : C := outD h c3 (K6 k)
def K9 (k : Nat) : C := blockK 0 (K7 k)
def c4 : Code := subC b [1, 1, 0, 1, 0, 0]
def K10 (k n1 : Nat) : C := loopD E h k c4 (K9 k) n1
def c5 : Code := subC b [1, 1, 0, 1, 0, 0, 1]
def K11 (k n1 : Nat) : C := outD h c5 (K10 k n1)
def c6 : Code := subC b [1, 1, 0, 1, 0, 0, 1, 1]
def K13 (k n1 : Nat) : C := outD h c6 (K11 k n1)
def c7 : Code := subC b [1, 1, 0, 1, 0, 0, 1, 1, 1]
def K15 (k n1 : Nat) : C := outD h c7 (K13 k n1)
abbrev T2 := Int → (List Int) → (List (Int × (List Int))) → Int → Int → R
abbrev T3 := (List Int) → R
abbrev T1 := Int → (List Int) → (List (Int × (List Int))) → Int → Int → R
abbrev T0 := D0 → Int → R
abbrev s2 := fun x1 x5 x9 x10 x11 => (⟨[(1, .v (.int .i64) .ro x1), (5, .v (.slice 3 (.int .i64)) (.own .ro) x5), (9, .v (.slice 41 (.agg (.pair (.int .i64) (.slice 3 (.int .i64))))) .ro x9), (10, .v (.int .i64) .ro x10), (11, .v (.int .i64) .ro x11)], [], []⟩ : ST cx)
def u2 (k n1 : Nat) : T2 := fun x1 x5 x9 x10 x11 => uK (run E h k c7) (s2 x1 x5 x9 x10 x11) (K15 k n1)
abbrev l2 (k n1 : Nat) : T2 := fun x1 x5 x9 x10 x11 => cutK (run E h k c7) (s2 x1 x5 x9 x10 x11) (K15 k n1)
abbrev s3 := fun x5 => (⟨[(5, .v (.slice 3 (.int .i64)) (.own .ro) x5)], [], []⟩ : ST cx)
def u3 (k : Nat) : T3 := fun x5 => uK (run E h k c2) (s3 x5) (K5 k)
abbrev l3 (k : Nat) : T3 := fun x5 => cutK (run E h k c2) (s3 x5) (K5 k)
abbrev s1 := fun x1 x5 x9 x10 x11 => (⟨[(1, .v (.int .i64) .ro x1), (5, .v (.slice 3 (.int .i64)) (.own .ro) x5), (9, .v (.slice 41 (.agg (.pair (.int .i64) (.slice 3 (.int .i64))))) .ro x9), (10, .v (.int .i64) .ro x10), (11, .v (.int .i64) .ro x11)], [], []⟩ : ST cx)
def u1 (k n1 : Nat) : T1 := fun x1 x5 x9 x10 x11 => uK (loopL E h k c4 (K9 k) n1) (s1 x1 x5 x9 x10 x11) ()
abbrev l1 (k n1 : Nat) : T1 := fun x1 x5 x9 x10 x11 => cutK (loopL E h k c4 (K9 k) n1) (s1 x1 x5 x9 x10 x11) ()
def u0 (k : Nat) : T0 := fun x0 x1 => runOf (S := cx) E h k Try.f93 [.val ty0, .val (.int .i64)] (.slice 3 (.int .i64)) .ro (x0, x1, ())
def t2 (f1 : T1) : T2 := fun x1 x5 x9 x10 x11 => (f1 x1 x5 x9 x10 (w64 (x11 + (1 : Int))))
theorem e2 (k n1 : Nat) : u2 k n1 = t2 (l1 k n1) := by kernel_rfl
theorem g2 (k n1 : Nat) : l2 k n1 = u2 k n1 := funext fun _ => funext fun _ => funext fun _ => funext fun _ => funext fun _ => cut_u _ _ _
def p2 (k : Nat) (a1 : T1) : T2 := t2 a1
theorem o2 (k n1 : Nat) (a1 : T1) (h1 : l1 k n1 = a1) : l2 k n1 = p2 k a1 := (Eq.trans (b := u2 k n1) (g2 k n1) (Eq.trans (b := t2 (l1 k n1)) (e2 k n1) (Eq.trans (b := t2 a1) (congrArg t2 h1) (by kernel_rfl))))
def t3 : T3 := fun x5 => (some (x5, ()))
theorem e3 (k : Nat) : u3 k = t3 := by kernel_rfl
theorem g3 (k : Nat) : l3 k = u3 k := funext fun _ => cut_u _ _ _
def p3 (k : Nat) : T3 := t3
theorem o3 (k : Nat) : l3 k = p3 k := (Eq.trans (b := u3 k) (g3 k) (Eq.trans (b := t3) (e3 k) (by kernel_rfl)))
def t1 (f2 : T2) (f3 : T3) : T1 := fun x1 x5 x9 x10 x11 => (iteB (decide (x11 < x10)) (wnR x11 (List.length x9) fun q1 => (iteB (decide ((List.getD x9 q1 ((0 : Int), ([] : List Int))).1 = x1)) (mustR (room x5 ([x11] : List Int)) (f2 x1 (x5 ++ ([x11] : List Int)) x9 x10 x11)) (f2 x1 x5 x9 x10 x11))) (f3 x5))
theorem e1 (k n1 : Nat) : u1 k (n1 + 1) = t1 (l2 k n1) (l3 k) := by kernel_rfl
theorem g1 (k n1 : Nat) : l1 k (n1 + 1) = u1 k (n1 + 1) := funext fun _ => funext fun _ => funext fun _ => funext fun _ => funext fun _ => cut_u _ _ _
def p1 (k : Nat) : Nat → T1
  | 0 => fun _ _ _ _ _ => none
  | n1 + 1 => t1 (p2 k (p1 k n1)) (p3 k)
theorem o1 (k : Nat) : ∀ n1, l1 k n1 = p1 k n1 := by
  intro n1
  induction n1 with
  | zero => kernel_rfl
  | succ n1 ih => exact (Eq.trans (b := u1 k (n1 + 1)) (g1 k n1) (Eq.trans (b := t1 (l2 k n1) (l3 k)) (e1 k n1) (Eq.trans (b := t1 (p2 k (p1 k n1)) (p3 k)) (congr (congrArg t1 (o2 k n1 (p1 k n1) ih)) (o3 k)) (by kernel_rfl))))
def t0 (f1 : T1) : T0 := fun x0 x1 => (f1 x1 ([] : List Int) x0.2.2.2.1 ((List.length x0.2.2.2.1 : Nat) : Int) (0 : Int))
theorem e0 (k : Nat) : u0 k = t0 (l1 k k) := by kernel_rfl
def p0 (k : Nat) : T0 := t0 (p1 k k)
theorem o0 (k : Nat) : u0 k = p0 k := (Eq.trans (b := t0 (l1 k k)) (e0 k) (Eq.trans (b := t0 (p1 k k)) (congrArg t0 (o1 k k)) (by kernel_rfl)))
end Q38
def s_Q38 (a : D0 × (Int × Unit)) : Option ((List Int) × Unit) := Q38.p0 fuel a.1 a.2.1
def F_Q38 : FSpec cx.toNm := { ps := [.val ty0, .val (.int .i64)], nres := 1, rt := (.slice 3 (.int .i64)), rm := .ro, f := s_Q38 }
theorem w_Q38 (a : D0 × (Int × Unit)) : runOf (S := cx) Q38.E Q38.h fuel Try.f93 F_Q38.ps F_Q38.rt F_Q38.rm a = F_Q38.f a := Eq.trans (b := Q38.u0 fuel a.1 a.2.1) (by kernel_rfl) (Eq.trans (b := Q38.p0 fuel a.1 a.2.1) (congrFun (congrFun (Q38.o0 fuel) a.1) a.2.1) (by kernel_rfl))
theorem ok_Q38 : FnOk Try.prog F_Q38 93 := fn_of (hn := Q38.h) (E := Q38.E) cxOk (tysT _ _) fs_nil follows Try.func93 (by kernel_rfl) (fun a r h => ⟨fuel, Eq.trans (w_Q38 a) h⟩)
namespace Q39
def E : Env cx := { tys := tys, fs := fsOf [(55, F_Q22), (56, F_Q21), (92, F_Q37), (93, F_Q38)] }
abbrev R := Option (((List Int) × Bool) × Unit)
abbrev C := Exit → ST cx → R
noncomputable def b : Code := bodyC Try.f84
def h : Hint := { vs := [0, 1, 2, 3, 6, 7, 8, 9, 10, 11, 12, 13, 14, 15, 16], nil := [], cuts := [(7, ([2, 3, 8, 9, 10], [3]), ([2, 3, 8, 9, 10], [3])), (9, ([2, 8, 11, 12, 13], []), ([2, 8, 11, 12, 13], []))], ret := ([6, 7], [3]), ords := [(7, [0, 1, 2, 3, 4, 6, 7, 8, 9, 10, 5, 11, 12, 13]), (9, [0, 1, 2, 3, 4, 5, 6, 7, 8, 10, 9, 11, 12])], trees := [(6, (.step 0 (.step 1 (.step 2 (.step 3 (.step 4 (.step 5 (.step 7 (.step 8 (.step 9 (.step 10 (.step 11 (.step 12 (.step 13 (.step 14 (.step 15 (.step 17 (.both (.step 6 (.step 18 (.step 16 (.step 19 .done)))) (.step 16 (.step 6 (.step 18 (.step 19 .done)))))))))))))))))))))), (12, (.step 0 (.step 1 (.step 2 (.step 3 (.step 4 (.step 5 (.step 6 (.step 7 (.step 8 (.step 9 (.step 10 (.step 11 (.step 12 (.step 14 (.step 15 (.step 16 (.step 17 (.step 18 (.step 19 (.step 20 (.both (.step 13 (.step 21 (.step 22 (.step 23 (.step 24 (.step 25 (.step 26 (.step 27 (.step 28 (.step 29 (.step 30 (.step 31 (.step 32 (.step 33 (.step 34 (.step 35 (.step 36 (.step 37 (.step 38 .done))))))))))))))))))) (.step 21 (.step 22 (.step 23 (.step 24 (.step 25 (.step 26 (.step 27 (.both (.step 13 (.step 28 (.step 29 (.step 30 (.step 31 (.step 32 (.step 33 (.step 34 (.step 35 (.step 36 (.step 37 (.step 38 .done)))))))))))) (.step 28 (.step 29 (.step 30 (.step 31 (.step 32 (.step 33 (.step 34 (.both (.step 13 (.step 35 (.step 36 (.step 37 (.step 38 .done))))) (.step 35 (.step 36 (.step 13 (.step 37 (.step 38 .done))))))))))))))))))))))))))))))))))))))))))), (14, (.step 0 (.step 1 (.step 2 (.step 3 (.step 4 (.step 5 (.step 6 (.step 8 (.step 9 (.step 10 (.step 11 (.step 12 (.step 13 (.step 14 (.both (.step 7 (.step 15 (.step 16 (.step 17 (.step 18 .done))))) (.step 15 (.step 16 (.step 7 (.step 17 (.step 18 .done)))))))))))))))))))))] }
def K0 : C := fin (S := cx) E Try.f84.results.toList (.pair (.slice 3 (.int .i64)) .bool) .ro [] []
def c0 : Code := subC b [1]
def K1 (k : Nat) : C := outD h c0 K0
def c1 : Code := subC b [1, 1]
def K4 (k : Nat) : C := seqC E h k c1 (K1 k)
def c2 : Code := subC b [1, 0, 1]
def K5 (k : Nat) : C := outD h c2 (K4 k)
def K7 (k : Nat) : C := blockK 0 (K5 k)
def c3 : Code := subC b [1, 0, 1, 0, 1]
def K8 (k : Nat) : C := outD h c3 (K7 k)
def c4 : Code := subC b [1, 0, 1, 0, 1, 0, 1]
def K10 (k : Nat) : C := outD h c4 (K8 k)
def c5 : Code := subC b [1, 0, 1, 0, 1, 0, 1, 1]
def K12 (k : Nat) : C := outD h c5 (K10 k)
def c6 : Code := subC b [1, 0, 1, 0, 1, 0, 1, 1, 1]
def K14 (k : Nat) : C := outD h c6 (K12 k)
def c13 : Code := subC b [1, 0, 1, 0, 1, 0, 1, 1, 1, 1]
def K28 (k : Nat) : C := outD h c13 (K14 k)
def c14 : Code := subC b [1, 0, 1, 0, 1, 0, 1, 1, 1, 1, 1]
def K30 (k : Nat) : C := outD h c14 (K28 k)
abbrev T2 := (List Int) → Int → Int → Int → Bool → R
abbrev T1 := (List Int) → Int → (List Int) → (List Int) → D0 → R
abbrev T0 := D0 → Int → (List Int) → R
abbrev s2 := fun x2 x8 x11 x12 x13 => (⟨[(2, .v (.slice 3 (.int .i64)) .ro x2), (8, .v (.int .i64) .ro x8), (11, .v (.int .i64) .ro x11), (12, .v (.int .i64) .ro x12), (13, .v .bool .ro x13)], [], []⟩ : ST cx)
def u2 (k : Nat) : T2 := fun x2 x8 x11 x12 x13 => uK (run E h k c14) (s2 x2 x8 x11 x12 x13) (K30 k)
abbrev l2 (k : Nat) : T2 := fun x2 x8 x11 x12 x13 => cutK (run E h k c14) (s2 x2 x8 x11 x12 x13) (K30 k)
abbrev s1 := fun x2 x8 x9 x10 m3 => (⟨[(2, .v (.slice 3 (.int .i64)) .ro x2), (3, .addr (.mem 3) []), (8, .v (.int .i64) .ro x8), (9, .v (.slice 3 (.int .i64)) .ro x9), (10, .v (.slice 3 (.int .i64)) .ro x10)], [], [(3, ⟨ty0, .ro, m3⟩)]⟩ : ST cx)
def u1 (k : Nat) : T1 := fun x2 x8 x9 x10 m3 => uK (run E h k c6) (s1 x2 x8 x9 x10 m3) (K14 k)
abbrev l1 (k : Nat) : T1 := fun x2 x8 x9 x10 m3 => cutK (run E h k c6) (s1 x2 x8 x9 x10 m3) (K14 k)
def u0 (k : Nat) : T0 := fun x0 x1 x2 => runOf (S := cx) E h k Try.f84 [.val ty0, .val (.int .u8), .val (.slice 3 (.int .i64))] (.pair (.slice 3 (.int .i64)) .bool) .ro (x0, x1, x2, ())
def t2 : T2 := fun x2 x8 x11 x12 x13 => (wnR (0 : Int) (List.length x2) fun q51 => (wnR (1 : Int) (List.length x2) fun q52 => (some ((([(List.getD x2 q51 (0 : Int)), (List.getD x2 q52 (0 : Int)), x8, x11, x12] : List Int), x13), ()))))
theorem e2 (k : Nat) : u2 k = t2 := by kernel_rfl
theorem g2 (k : Nat) : l2 k = u2 k := funext fun _ => funext fun _ => funext fun _ => funext fun _ => funext fun _ => cut_u _ _ _
def p2 (k : Nat) : T2 := t2
theorem o2 (k : Nat) : l2 k = p2 k := (Eq.trans (b := u2 k) (g2 k) (Eq.trans (b := t2) (e2 k) (by kernel_rfl)))
def t1 (f2 : T2) : T1 := fun x2 x8 x9 x10 m3 => (wnR (0 : Int) (List.length x2) fun q40 => (wnR (0 : Int) (List.length x2) fun q41 => (bindR (s_Q37 (m3, ((List.getD x2 q40 (0 : Int)), (x9, ())))) fun r42 => (bindR (s_Q37 (m3, ((List.getD x2 q41 (0 : Int)), (x10, ())))) fun r43 => (iteB (decide ((0 : Int) ≤ r42.1)) (iteB (decide ((0 : Int) ≤ r43.1)) (wnR (0 : Int) (List.length x2) fun q44 => (bindR (s_Q38 (m3, ((List.getD x2 q44 (0 : Int)), ()))) fun r45 => (iteB (decide (((List.length r45.1 : Nat) : Int) = (2 : Int))) (wnR (0 : Int) (List.length x2) fun q46 => (bindR (s_Q21 (m3, ((List.getD x2 q46 (0 : Int)), ()))) fun r47 => (iteB r47.1 (wnR (0 : Int) (List.length x2) fun q48 => (wnR (1 : Int) (List.length x2) fun q49 => (iteB (!decide ((List.getD x2 q48 (0 : Int)) = (List.getD x2 q49 (0 : Int)))) (iteB (decide (x8 < (0 : Int))) (f2 x2 x8 r42.1 r43.1 true) (bindR (s_Q22 (m3, (x8, ()))) fun r50 => (f2 x2 x8 r42.1 r43.1 r50.1))) (f2 x2 x8 r42.1 r43.1 false)))) (f2 x2 x8 r42.1 r43.1 false)))) (f2 x2 x8 r42.1 r43.1 false)))) (f2 x2 x8 r42.1 r43.1 false)) (f2 x2 x8 r42.1 r43.1 false))))))
theorem e1 (k : Nat) : u1 k = t1 (l2 k) := by kernel_rfl
theorem g1 (k : Nat) : l1 k = u1 k := funext fun _ => funext fun _ => funext fun _ => funext fun _ => funext fun _ => cut_u _ _ _
def p1 (k : Nat) : T1 := t1 (p2 k)
theorem o1 (k : Nat) : l1 k = p1 k := (Eq.trans (b := u1 k) (g1 k) (Eq.trans (b := t1 (l2 k)) (e1 k) (Eq.trans (b := t1 (p2 k)) (congrArg t1 (o2 k)) (by kernel_rfl))))
def t0 (f1 : T1) : T0 := fun x0 x1 x2 => (iteB (decide (x1 = (1 : Int))) (wnR (0 : Int) (List.length x2) fun q1 => (wnR (1 : Int) (List.length x2) fun q2 => (iteB (decide (((List.length x2 : Nat) : Int) = (3 : Int))) (wnR (2 : Int) (List.length x2) fun q3 => (wnR (1 : Int) (List.length x2) fun q4 => (wnR (0 : Int) (List.length x2) fun q5 => (wnR (2 : Int) (List.length x2) fun q6 => (wnR (1 : Int) (List.length x2) fun q7 => (meetK (f1 x2 (List.getD x2 q3 (0 : Int)) ([(List.getD x2 q4 (0 : Int))] : List Int) ([(List.getD x2 q5 (0 : Int)), (List.getD x2 q6 (0 : Int)), (List.getD x2 q7 (0 : Int))] : List Int) x0) (f1 x2 (List.getD x2 q3 (0 : Int)) ([(List.getD x2 q4 (0 : Int))] : List Int) ([(List.getD x2 q5 (0 : Int)), (List.getD x2 q6 (0 : Int)), (List.getD x2 q7 (0 : Int))] : List Int) x0))))))) (f1 x2 (-1 : Int) ([] : List Int) ([(List.getD x2 q1 (0 : Int)), (List.getD x2 q2 (0 : Int))] : List Int) x0)))) (iteB (decide (x1 = (2 : Int))) (wnR (0 : Int) (List.length x2) fun q8 => (wnR (1 : Int) (List.length x2) fun q9 => (wnR (2 : Int) (List.length x2) fun q10 => (wnR (3 : Int) (List.length x2) fun q11 => (bindR (s_Q37 (x0, ((List.getD x2 q8 (0 : Int)), (([(List.getD x2 q9 (0 : Int)), (List.getD x2 q10 (0 : Int)), (List.getD x2 q11 (0 : Int))] : List Int), ())))) fun r12 => (wnR (0 : Int) (List.length x2) fun q13 => (wnR (1 : Int) (List.length x2) fun q14 => (wnR (2 : Int) (List.length x2) fun q15 => (wnR (3 : Int) (List.length x2) fun q16 => (iteB (decide ((0 : Int) ≤ r12.1)) (wnR (1 : Int) (List.length x2) fun q17 => (meetK (bindR (s_Q22 (x0, ((List.getD x2 q17 (0 : Int)), ()))) fun r18 => (iteB r18.1 (wnR (2 : Int) (List.length x2) fun q19 => (bindR (s_Q21 (x0, ((List.getD x2 q19 (0 : Int)), ()))) fun r20 => (iteB r20.1 (wnR (3 : Int) (List.length x2) fun q21 => (bindR (s_Q22 (x0, ((List.getD x2 q21 (0 : Int)), ()))) fun r22 => (some ((([r12.1, (List.getD x2 q13 (0 : Int)), (List.getD x2 q14 (0 : Int)), (List.getD x2 q15 (0 : Int)), (List.getD x2 q16 (0 : Int))] : List Int), r22.1), ())))) (some ((([r12.1, (List.getD x2 q13 (0 : Int)), (List.getD x2 q14 (0 : Int)), (List.getD x2 q15 (0 : Int)), (List.getD x2 q16 (0 : Int))] : List Int), false), ()))))) (some ((([r12.1, (List.getD x2 q13 (0 : Int)), (List.getD x2 q14 (0 : Int)), (List.getD x2 q15 (0 : Int)), (List.getD x2 q16 (0 : Int))] : List Int), false), ())))) (bindR (s_Q22 (x0, ((List.getD x2 q17 (0 : Int)), ()))) fun r23 => (iteB r23.1 (wnR (2 : Int) (List.length x2) fun q24 => (meetK (bindR (s_Q21 (x0, ((List.getD x2 q24 (0 : Int)), ()))) fun r25 => (iteB r25.1 (wnR (3 : Int) (List.length x2) fun q26 => (bindR (s_Q22 (x0, ((List.getD x2 q26 (0 : Int)), ()))) fun r27 => (some ((([r12.1, (List.getD x2 q13 (0 : Int)), (List.getD x2 q14 (0 : Int)), (List.getD x2 q15 (0 : Int)), (List.getD x2 q16 (0 : Int))] : List Int), r27.1), ())))) (some ((([r12.1, (List.getD x2 q13 (0 : Int)), (List.getD x2 q14 (0 : Int)), (List.getD x2 q15 (0 : Int)), (List.getD x2 q16 (0 : Int))] : List Int), false), ())))) (bindR (s_Q21 (x0, ((List.getD x2 q24 (0 : Int)), ()))) fun r28 => (iteB r28.1 (wnR (3 : Int) (List.length x2) fun q29 => (meetK (bindR (s_Q22 (x0, ((List.getD x2 q29 (0 : Int)), ()))) fun r30 => (some ((([r12.1, (List.getD x2 q13 (0 : Int)), (List.getD x2 q14 (0 : Int)), (List.getD x2 q15 (0 : Int)), (List.getD x2 q16 (0 : Int))] : List Int), r30.1), ()))) (bindR (s_Q22 (x0, ((List.getD x2 q29 (0 : Int)), ()))) fun r31 => (some ((([r12.1, (List.getD x2 q13 (0 : Int)), (List.getD x2 q14 (0 : Int)), (List.getD x2 q15 (0 : Int)), (List.getD x2 q16 (0 : Int))] : List Int), r31.1), ()))))) (meetK (some ((([r12.1, (List.getD x2 q13 (0 : Int)), (List.getD x2 q14 (0 : Int)), (List.getD x2 q15 (0 : Int)), (List.getD x2 q16 (0 : Int))] : List Int), false), ())) (some ((([r12.1, (List.getD x2 q13 (0 : Int)), (List.getD x2 q14 (0 : Int)), (List.getD x2 q15 (0 : Int)), (List.getD x2 q16 (0 : Int))] : List Int), false), ()))))))) (meetK (some ((([r12.1, (List.getD x2 q13 (0 : Int)), (List.getD x2 q14 (0 : Int)), (List.getD x2 q15 (0 : Int)), (List.getD x2 q16 (0 : Int))] : List Int), false), ())) (meetK (some ((([r12.1, (List.getD x2 q13 (0 : Int)), (List.getD x2 q14 (0 : Int)), (List.getD x2 q15 (0 : Int)), (List.getD x2 q16 (0 : Int))] : List Int), false), ())) (some ((([r12.1, (List.getD x2 q13 (0 : Int)), (List.getD x2 q14 (0 : Int)), (List.getD x2 q15 (0 : Int)), (List.getD x2 q16 (0 : Int))] : List Int), false), ())))))))) (meetK (some ((([r12.1, (List.getD x2 q13 (0 : Int)), (List.getD x2 q14 (0 : Int)), (List.getD x2 q15 (0 : Int)), (List.getD x2 q16 (0 : Int))] : List Int), false), ())) (meetK (some ((([r12.1, (List.getD x2 q13 (0 : Int)), (List.getD x2 q14 (0 : Int)), (List.getD x2 q15 (0 : Int)), (List.getD x2 q16 (0 : Int))] : List Int), false), ())) (meetK (some ((([r12.1, (List.getD x2 q13 (0 : Int)), (List.getD x2 q14 (0 : Int)), (List.getD x2 q15 (0 : Int)), (List.getD x2 q16 (0 : Int))] : List Int), false), ())) (some ((([r12.1, (List.getD x2 q13 (0 : Int)), (List.getD x2 q14 (0 : Int)), (List.getD x2 q15 (0 : Int)), (List.getD x2 q16 (0 : Int))] : List Int), false), ()))))))))))))))) (wnR (0 : Int) (List.length x2) fun q32 => (wnR (1 : Int) (List.length x2) fun q33 => (bindR (s_Q37 (x0, ((List.getD x2 q32 (0 : Int)), (([(List.getD x2 q33 (0 : Int))] : List Int), ())))) fun r34 => (wnR (0 : Int) (List.length x2) fun q35 => (wnR (1 : Int) (List.length x2) fun q36 => (iteB (decide ((0 : Int) ≤ r34.1)) (wnR (1 : Int) (List.length x2) fun q37 => (meetK (bindR (s_Q22 (x0, ((List.getD x2 q37 (0 : Int)), ()))) fun r38 => (some ((([r34.1, (List.getD x2 q35 (0 : Int)), (List.getD x2 q36 (0 : Int))] : List Int), r38.1), ()))) (bindR (s_Q22 (x0, ((List.getD x2 q37 (0 : Int)), ()))) fun r39 => (some ((([r34.1, (List.getD x2 q35 (0 : Int)), (List.getD x2 q36 (0 : Int))] : List Int), r39.1), ()))))) (meetK (some ((([r34.1, (List.getD x2 q35 (0 : Int)), (List.getD x2 q36 (0 : Int))] : List Int), false), ())) (some ((([r34.1, (List.getD x2 q35 (0 : Int)), (List.getD x2 q36 (0 : Int))] : List Int), false), ())))))))))))
theorem e0 (k : Nat) : u0 k = t0 (l1 k) := by kernel_rfl
def p0 (k : Nat) : T0 := t0 (p1 k)
theorem o0 (k : Nat) : u0 k = p0 k := (Eq.trans (b := t0 (l1 k)) (e0 k) (Eq.trans (b := t0 (p1 k)) (congrArg t0 (o1 k)) (by kernel_rfl)))
end Q39
def s_Q39 (a : D0 × (Int × ((List Int) × Unit))) : Option (((List Int) × Bool) × Unit) := Q39.p0 fuel a.1 a.2.1 a.2.2.1
def F_Q39 : FSpec cx.toNm := { ps := [.val ty0, .val (.int .u8), .val (.slice 3 (.int .i64))], nres := 2, rt := (.pair (.slice 3 (.int .i64)) .bool), rm := .ro, f := s_Q39 }
theorem w_Q39 (a : D0 × (Int × ((List Int) × Unit))) : runOf (S := cx) Q39.E Q39.h fuel Try.f84 F_Q39.ps F_Q39.rt F_Q39.rm a = F_Q39.f a := Eq.trans (b := Q39.u0 fuel a.1 a.2.1 a.2.2.1) (by kernel_rfl) (Eq.trans (b := Q39.p0 fuel a.1 a.2.1 a.2.2.1) (congrFun (congrFun (congrFun (Q39.o0 fuel) a.1) a.2.1) a.2.2.1) (by kernel_rfl))
theorem ok_Q39 : FnOk Try.prog F_Q39 84 := fn_of (hn := Q39.h) (E := Q39.E) cxOk (tysT _ _) (fs_cons ok_Q22 (fs_cons ok_Q21 (fs_cons ok_Q37 (fs_cons ok_Q38 fs_nil)))) follows Try.func84 (by kernel_rfl) (fun a r h => ⟨fuel, Eq.trans (w_Q39 a) h⟩)
namespace Q40
def E : Env cx := { tys := tys, fs := fsOf [] }
abbrev R := Option (Bool × Unit)
abbrev C := Exit → ST cx → R
noncomputable def b : Code := bodyC Try.f83
def h : Hint := { vs := [0, 1, 3], nil := [], cuts := [], ret := ([3], []), ords := [] }
abbrev T0 := Int → D0 → R
def u0 (k : Nat) : T0 := fun x0 x1 => runOf (S := cx) E h k Try.f83 [.val (.int .i64), .val (.box ty0)] .bool .ro (x0, x1, ())
def t0 : T0 := fun x0 x1 => (iteB (decide (x0 < (0 : Int))) (some (true, ())) (some ((decide (((List.length x1.1 : Nat) : Int) ≤ x0)), ())))
theorem e0 (k : Nat) : u0 k = t0 := by kernel_rfl
def p0 (k : Nat) : T0 := t0
theorem o0 (k : Nat) : u0 k = p0 k := (Eq.trans (b := t0) (e0 k) (by kernel_rfl))
end Q40
def s_Q40 (a : Int × (D0 × Unit)) : Option (Bool × Unit) := Q40.p0 fuel a.1 a.2.1
def F_Q40 : FSpec cx.toNm := { ps := [.val (.int .i64), .val (.box ty0)], nres := 1, rt := .bool, rm := .ro, f := s_Q40 }
theorem w_Q40 (a : Int × (D0 × Unit)) : runOf (S := cx) Q40.E Q40.h fuel Try.f83 F_Q40.ps F_Q40.rt F_Q40.rm a = F_Q40.f a := Eq.trans (b := Q40.u0 fuel a.1 a.2.1) (by kernel_rfl) (Eq.trans (b := Q40.p0 fuel a.1 a.2.1) (congrFun (congrFun (Q40.o0 fuel) a.1) a.2.1) (by kernel_rfl))
theorem ok_Q40 : FnOk Try.prog F_Q40 83 := fn_of (hn := Q40.h) (E := Q40.E) cxOk (tysT _ _) fs_nil follows Try.func83 (by kernel_rfl) (fun a r h => ⟨fuel, Eq.trans (w_Q40 a) h⟩)
namespace Q41
def E : Env cx := { tys := tys, fs := fsOf [(83, F_Q40)] }
abbrev R := Option (Int × Unit)
abbrev C := Exit → ST cx → R
noncomputable def b : Code := bodyC Try.f76
def h : Hint := { vs := [0, 1, 4, 5, 7, 8], nil := [], cuts := [(2, ([0, 1, 7, 8], []), ([], [])), (7, ([], []), ([], []))], ret := ([4], []), ords := [] }
def K0 : C := fin (S := cx) E Try.f76.results.toList (.int .i64) .ro [] []
def c0 : Code := subC b [1]
def K1 (k : Nat) : C := outD h c0 K0
def c1 : Code := subC b [1, 1]
def K3 (k : Nat) : C := outD h c1 (K1 k)
def K4 (k : Nat) : C := seqC E h k c1 (K1 k)
def c2 : Code := subC b [1, 0, 1]
def K5 (k : Nat) : C := outD h c2 (K4 k)
def K7 (k : Nat) : C := blockK 0 (K5 k)
def c3 : Code := subC b [1, 0, 1, 0, 0]
abbrev T2 := R
abbrev T1 := (List Int) → (D0 × Unit) → Int → Int → R
abbrev T0 := (List Int) → (D0 × Unit) → R
abbrev s2 : ST cx := (⟨[], [], []⟩ : ST cx)
def u2 (k : Nat) : T2 := uK (run E h k c1) s2 (K3 k)
abbrev l2 (k : Nat) : T2 := cutK (run E h k c1) s2 (K3 k)
abbrev s1 := fun x0 x1 x7 x8 => (⟨[(0, .v (.slice 3 (.int .i64)) .ro x0), (1, .v (.clo 83 (.pair (.box ty0) .unit)) .ro x1), (7, .v (.int .i64) .ro x7), (8, .v (.int .i64) .ro x8)], [], []⟩ : ST cx)
def u1 (k n1 : Nat) : T1 := fun x0 x1 x7 x8 => uK (loopL E h k c3 (K7 k) n1) (s1 x0 x1 x7 x8) ()
abbrev l1 (k n1 : Nat) : T1 := fun x0 x1 x7 x8 => cutK (loopL E h k c3 (K7 k) n1) (s1 x0 x1 x7 x8) ()
def u0 (k : Nat) : T0 := fun x0 x1 => runOf (S := cx) E h k Try.f76 [.val (.slice 3 (.int .i64)), .val (.clo 83 (.pair (.box ty0) .unit))] (.int .i64) .ro (x0, x1, ())
def t2 : T2 := 
  (some ((-1 : Int), ()))
theorem e2 (k : Nat) : u2 k = t2 := by kernel_rfl
theorem g2 (k : Nat) : l2 k = u2 k := cut_u _ _ _
def p2 (k : Nat) : T2 := t2
theorem o2 (k : Nat) : l2 k = p2 k := (Eq.trans (b := u2 k) (g2 k) (Eq.trans (b := t2) (e2 k) (by kernel_rfl)))
def t1 (f1 : T1) (f2 : T2) : T1 := fun x0 x1 x7 x8 => (iteB (decide (x8 < x7)) (wnR x8 (List.length x0) fun q1 => (bindR (s_Q40 ((List.getD x0 q1 (0 : Int)), (x1.1, ()))) fun r2 => (iteB r2.1 (some (x8, ())) (f1 x0 x1 x7 (w64 (x8 + (1 : Int))))))) f2)
theorem e1 (k n1 : Nat) : u1 k (n1 + 1) = t1 (l1 k n1) (l2 k) := by kernel_rfl
theorem g1 (k n1 : Nat) : l1 k (n1 + 1) = u1 k (n1 + 1) := funext fun _ => funext fun _ => funext fun _ => funext fun _ => cut_u _ _ _
def p1 (k : Nat) : Nat → T1
  | 0 => fun _ _ _ _ => none
  | n1 + 1 => t1 (p1 k n1) (p2 k)
theorem o1 (k : Nat) : ∀ n1, l1 k n1 = p1 k n1 := by
  intro n1
  induction n1 with
  | zero => kernel_rfl
  | succ n1 ih => exact (Eq.trans (b := u1 k (n1 + 1)) (g1 k n1) (Eq.trans (b := t1 (l1 k n1) (l2 k)) (e1 k n1) (Eq.trans (b := t1 (p1 k n1) (p2 k)) (congr (congrArg t1 ih) (o2 k)) (by kernel_rfl))))
def t0 (f1 : T1) : T0 := fun x0 x1 => (f1 x0 x1 ((List.length x0 : Nat) : Int) (0 : Int))
theorem e0 (k : Nat) : u0 k = t0 (l1 k k) := by kernel_rfl
def p0 (k : Nat) : T0 := t0 (p1 k k)
theorem o0 (k : Nat) : u0 k = p0 k := (Eq.trans (b := t0 (l1 k k)) (e0 k) (Eq.trans (b := t0 (p1 k k)) (congrArg t0 (o1 k k)) (by kernel_rfl)))
end Q41
def s_Q41 (a : (List Int) × ((D0 × Unit) × Unit)) : Option (Int × Unit) := Q41.p0 fuel a.1 a.2.1
def F_Q41 : FSpec cx.toNm := { ps := [.val (.slice 3 (.int .i64)), .val (.clo 83 (.pair (.box ty0) .unit))], nres := 1, rt := (.int .i64), rm := .ro, f := s_Q41 }
theorem w_Q41 (a : (List Int) × ((D0 × Unit) × Unit)) : runOf (S := cx) Q41.E Q41.h fuel Try.f76 F_Q41.ps F_Q41.rt F_Q41.rm a = F_Q41.f a := Eq.trans (b := Q41.u0 fuel a.1 a.2.1) (by kernel_rfl) (Eq.trans (b := Q41.p0 fuel a.1 a.2.1) (congrFun (congrFun (Q41.o0 fuel) a.1) a.2.1) (by kernel_rfl))
theorem ok_Q41 : FnOk Try.prog F_Q41 76 := fn_of (hn := Q41.h) (E := Q41.E) cxOk (tysT _ _) (fs_cons ok_Q40 fs_nil) follows Try.func76 (by kernel_rfl) (fun a r h => ⟨fuel, Eq.trans (w_Q41 a) h⟩)
namespace Q42
def E : Env cx := { tys := tys, fs := fsOf [(76, F_Q41)] }
abbrev R := Option (Bool × Unit)
abbrev C := Exit → ST cx → R
noncomputable def b : Code := bodyC Try.f60
def h : Hint := { vs := [0, 1, 4], nil := [], cuts := [], ret := ([4], []), ords := [] }
abbrev T0 := (List Int) → (D0 × Unit) → R
def u0 (k : Nat) : T0 := fun x0 x1 => runOf (S := cx) E h k Try.f60 [.val (.slice 3 (.int .i64)), .val (.clo 83 (.pair (.box ty0) .unit))] .bool .ro (x0, x1, ())
def t0 : T0 := fun x0 x1 => (bindR (s_Q41 (x0, (x1, ()))) fun r1 => (some ((decide ((0 : Int) ≤ r1.1)), ())))
theorem e0 (k : Nat) : u0 k = t0 := by kernel_rfl
def p0 (k : Nat) : T0 := t0
theorem o0 (k : Nat) : u0 k = p0 k := (Eq.trans (b := t0) (e0 k) (by kernel_rfl))
end Q42
def s_Q42 (a : (List Int) × ((D0 × Unit) × Unit)) : Option (Bool × Unit) := Q42.p0 fuel a.1 a.2.1
def F_Q42 : FSpec cx.toNm := { ps := [.val (.slice 3 (.int .i64)), .val (.clo 83 (.pair (.box ty0) .unit))], nres := 1, rt := .bool, rm := .ro, f := s_Q42 }
theorem w_Q42 (a : (List Int) × ((D0 × Unit) × Unit)) : runOf (S := cx) Q42.E Q42.h fuel Try.f60 F_Q42.ps F_Q42.rt F_Q42.rm a = F_Q42.f a := Eq.trans (b := Q42.u0 fuel a.1 a.2.1) (by kernel_rfl) (Eq.trans (b := Q42.p0 fuel a.1 a.2.1) (congrFun (congrFun (Q42.o0 fuel) a.1) a.2.1) (by kernel_rfl))
theorem ok_Q42 : FnOk Try.prog F_Q42 60 := fn_of (hn := Q42.h) (E := Q42.E) cxOk (tysT _ _) (fs_cons ok_Q41 fs_nil) follows Try.func60 (by kernel_rfl) (fun a r h => ⟨fuel, Eq.trans (w_Q42 a) h⟩)
namespace Q43
def E : Env cx := { tys := tys, fs := fsOf [] }
abbrev R := Option ((List Int) × Unit)
abbrev C := Exit → ST cx → R
noncomputable def b : Code := bodyC Try.f82
def h : Hint := { vs := [0, 2], nil := [(5, (.own .ro))], cuts := [], ret := ([2], []), ords := [] }
abbrev T0 := (List Int) → R
def u0 (k : Nat) : T0 := fun x0 => runOf (S := cx) E h k Try.f82 [.val (.slice 3 (.int .i64))] (.slice 3 (.int .i64)) .ro (x0, ())
def t0 : T0 := fun x0 => (nilR (List.isEmpty x0) (some (([] : List Int), ())) (mustR (room ([] : List Int) x0) (some ((([] : List Int) ++ x0), ()))))
theorem e0 (k : Nat) : u0 k = t0 := by kernel_rfl
def p0 (k : Nat) : T0 := t0
theorem o0 (k : Nat) : u0 k = p0 k := (Eq.trans (b := t0) (e0 k) (by kernel_rfl))
end Q43
def s_Q43 (a : (List Int) × Unit) : Option ((List Int) × Unit) := Q43.p0 fuel a.1
def F_Q43 : FSpec cx.toNm := { ps := [.val (.slice 3 (.int .i64))], nres := 1, rt := (.slice 3 (.int .i64)), rm := .ro, f := s_Q43 }
theorem w_Q43 (a : (List Int) × Unit) : runOf (S := cx) Q43.E Q43.h fuel Try.f82 F_Q43.ps F_Q43.rt F_Q43.rm a = F_Q43.f a := Eq.trans (b := Q43.u0 fuel a.1) (by kernel_rfl) (Eq.trans (b := Q43.p0 fuel a.1) (congrFun (Q43.o0 fuel) a.1) (by kernel_rfl))
theorem ok_Q43 : FnOk Try.prog F_Q43 82 := fn_of (hn := Q43.h) (E := Q43.E) cxOk (tysT _ _) fs_nil follows Try.func82 (by kernel_rfl) (fun a r h => ⟨fuel, Eq.trans (w_Q43 a) h⟩)
namespace Q44
def E : Env cx := { tys := tys, fs := fsOf [(60, F_Q42), (82, F_Q43), (84, F_Q39), (85, F_Q34)] }
abbrev R := Option (Bool × Unit)
abbrev C := Exit → ST cx → R
noncomputable def b : Code := bodyC Try.f81
def h : Hint := { vs := [0, 1, 2, 3, 4, 5, 7, 8, 9, 10], nil := [], cuts := [(5, ([0, 4, 5, 8, 27], []), ([0, 4, 5, 8], [])), (6, ([0, 4, 5, 8], []), ([0, 4, 5, 8], []))], ret := ([7], []), ords := [] }
def K0 : C := fin (S := cx) E Try.f81.results.toList .bool .ro [] []
def c0 : Code := subC b [1]
def K1 (k : Nat) : C := outD h c0 K0
def c1 : Code := subC b [1, 1]
def K3 (k : Nat) : C := outD h c1 (K1 k)
def c4 : Code := subC b [1, 1, 1]
def K9 (k : Nat) : C := outD h c4 (K3 k)
def c5 : Code := subC b [1, 1, 1, 1]
def K11 (k : Nat) : C := outD h c5 (K9 k)
def K12 (k : Nat) : C := seqC E h k c5 (K9 k)
def c6 : Code := subC b [1, 1, 1, 0, 1]
def K13 (k : Nat) : C := outD h c6 (K12 k)
abbrev T2 := (List Int) → Int → D0 → (List Int) → R
abbrev T1 := (List Int) → Int → D0 → (List Int) → Bool → R
abbrev T0 := (List Int) → Int → Int → Int → Int → D0 → R
abbrev s2 := fun x0 x4 x5 x8 => (⟨[(0, .v (.slice 3 (.int .i64)) .ro x0), (4, .rp (.int .u8) x4), (5, .rp ty0 x5), (8, .v (.slice 3 (.int .i64)) .ro x8)], [], []⟩ : ST cx)
def u2 (k : Nat) : T2 := fun x0 x4 x5 x8 => uK (run E h k c5) (s2 x0 x4 x5 x8) (K11 k)
abbrev l2 (k : Nat) : T2 := fun x0 x4 x5 x8 => cutK (run E h k c5) (s2 x0 x4 x5 x8) (K11 k)
abbrev s1 := fun x0 x4 x5 x8 x27 => (⟨[(0, .v (.slice 3 (.int .i64)) .ro x0), (4, .rp (.int .u8) x4), (5, .rp ty0 x5), (8, .v (.slice 3 (.int .i64)) .ro x8), (27, .v .bool .ro x27)], [], []⟩ : ST cx)
def u1 (k : Nat) : T1 := fun x0 x4 x5 x8 x27 => uK (run E h k c6) (s1 x0 x4 x5 x8 x27) (K13 k)
abbrev l1 (k : Nat) : T1 := fun x0 x4 x5 x8 x27 => cutK (run E h k c6) (s1 x0 x4 x5 x8 x27) (K13 k)
def u0 (k : Nat) : T0 := fun x0 x1 x2 x3 x4 x5 => runOf (S := cx) E h k Try.f81 [.val (.slice 3 (.int .i64)), .val (.box (.int .i64)), .val (.box (.int .i64)), .val (.box (.int .i64)), .val (.box (.int .u8)), .val (.box ty0)] .bool .ro (x0, x1, x2, x3, x4, x5, ())
def t2 : T2 := fun x0 x4 x5 x8 => (bindR (s_Q42 (x8, ((x5, ()), ()))) fun r3 => (iteB r3.1 (some (true, ())) (bindR (s_Q39 (x5, (x4, (x8, ())))) fun r4 => (iteB (notB r4.1.2) (some (true, ())) (bindR (s_Q34 (r4.1.1, (x0, ()))) fun r5 => (some ((notB r5.1), ())))))))
theorem e2 (k : Nat) : u2 k = t2 := by kernel_rfl
theorem g2 (k : Nat) : l2 k = u2 k := funext fun _ => funext fun _ => funext fun _ => funext fun _ => cut_u _ _ _
def p2 (k : Nat) : T2 := t2
theorem o2 (k : Nat) : l2 k = p2 k := (Eq.trans (b := u2 k) (g2 k) (Eq.trans (b := t2) (e2 k) (by kernel_rfl)))
def t1 (f2 : T2) : T1 := fun x0 x4 x5 x8 x27 => (iteB x27 (mustR (decide (0 ≤ (2 : Int))) (mustR (decide ((2 : Int) ≤ (((List.length x8) : Nat) : Int))) (f2 x0 x4 x5 (List.drop 0 (List.take (Int.toNat (2 : Int)) x8))))) (f2 x0 x4 x5 x8))
theorem e1 (k : Nat) : u1 k = t1 (l2 k) := by kernel_rfl
theorem g1 (k : Nat) : l1 k = u1 k := funext fun _ => funext fun _ => funext fun _ => funext fun _ => funext fun _ => cut_u _ _ _
def p1 (k : Nat) : T1 := t1 (p2 k)
theorem o1 (k : Nat) : l1 k = p1 k := (Eq.trans (b := u1 k) (g1 k) (Eq.trans (b := t1 (l2 k)) (e1 k) (Eq.trans (b := t1 (p2 k)) (congrArg t1 (o2 k)) (by kernel_rfl))))
def t0 (f1 : T1) : T0 := fun x0 x1 x2 x3 x4 x5 => (iteB (!decide (((List.length x0 : Nat) : Int) = x1)) (some (true, ())) (mustR (decide (0 ≤ x3)) (mustR (decide (x3 ≤ (((List.length x0) : Nat) : Int))) (mustR (decide (0 ≤ x2)) (mustR (decide (x2 ≤ (((Int.toNat x3) : Nat) : Int))) (bindR (s_Q43 ((List.drop (Int.toNat x2) (List.take (Int.toNat x3) x0)), ())) fun r1 => (iteB (decide (x4 = (1 : Int))) (wnR (2 : Int) (List.length r1.1) fun q2 => (f1 x0 x4 x5 r1.1 (decide ((List.getD r1.1 q2 (0 : Int)) = (-1 : Int))))) (f1 x0 x4 x5 r1.1 false))))))))
theorem e0 (k : Nat) : u0 k = t0 (l1 k) := by kernel_rfl
def p0 (k : Nat) : T0 := t0 (p1 k)
theorem o0 (k : Nat) : u0 k = p0 k := (Eq.trans (b := t0 (l1 k)) (e0 k) (Eq.trans (b := t0 (p1 k)) (congrArg t0 (o1 k)) (by kernel_rfl)))
end Q44
def s_Q44 (a : (List Int) × (Int × (Int × (Int × (Int × (D0 × Unit)))))) : Option (Bool × Unit) := Q44.p0 fuel a.1 a.2.1 a.2.2.1 a.2.2.2.1 a.2.2.2.2.1 a.2.2.2.2.2.1
def F_Q44 : FSpec cx.toNm := { ps := [.val (.slice 3 (.int .i64)), .val (.box (.int .i64)), .val (.box (.int .i64)), .val (.box (.int .i64)), .val (.box (.int .u8)), .val (.box ty0)], nres := 1, rt := .bool, rm := .ro, f := s_Q44 }
theorem w_Q44 (a : (List Int) × (Int × (Int × (Int × (Int × (D0 × Unit)))))) : runOf (S := cx) Q44.E Q44.h fuel Try.f81 F_Q44.ps F_Q44.rt F_Q44.rm a = F_Q44.f a := Eq.trans (b := Q44.u0 fuel a.1 a.2.1 a.2.2.1 a.2.2.2.1 a.2.2.2.2.1 a.2.2.2.2.2.1) (by kernel_rfl) (Eq.trans (b := Q44.p0 fuel a.1 a.2.1 a.2.2.1 a.2.2.2.1 a.2.2.2.2.1 a.2.2.2.2.2.1) (congrFun (congrFun (congrFun (congrFun (congrFun (congrFun (Q44.o0 fuel) a.1) a.2.1) a.2.2.1) a.2.2.2.1) a.2.2.2.2.1) a.2.2.2.2.2.1) (by kernel_rfl))
theorem ok_Q44 : FnOk Try.prog F_Q44 81 := fn_of (hn := Q44.h) (E := Q44.E) cxOk (tysT _ _) (fs_cons ok_Q42 (fs_cons ok_Q43 (fs_cons ok_Q39 (fs_cons ok_Q34 fs_nil)))) follows Try.func81 (by kernel_rfl) (fun a r h => ⟨fuel, Eq.trans (w_Q44 a) h⟩)
namespace Q45
def E : Env cx := { tys := tys, fs := fsOf [(81, F_Q44)] }
abbrev R := Option (Int × Unit)
abbrev C := Exit → ST cx → R
noncomputable def b : Code := bodyC Try.f91
def h : Hint := { vs := [0, 1, 4, 5, 7, 8], nil := [], cuts := [(2, ([0, 1, 7, 8], []), ([], [])), (7, ([], []), ([], []))], ret := ([4], []), ords := [] }
def K0 : C := fin (S := cx) E Try.f91.results.toList (.int .i64) .ro [] []
def c0 : Code := subC b [1]
def K1 (k : Nat) : C := outD h c0 K0
def c1 : Code := subC b [1, 1]
def K3 (k : Nat) : C := outD h c1 (K1 k)
def K4 (k : Nat) : C := seqC E h k c1 (K1 k)
def c2 : Code := subC b [1, 0, 1]
def K5 (k : Nat) : C := outD h c2 (K4 k)
def K7 (k : Nat) : C := blockK 0 (K5 k)
def c3 : Code := subC b [1, 0, 1, 0, 0]
abbrev T2 := R
abbrev T1 := (List (List Int)) → (Int × (Int × (Int × (Int × (D0 × Unit))))) → Int → Int → R
abbrev T0 := (List (List Int)) → (Int × (Int × (Int × (Int × (D0 × Unit))))) → R
abbrev s2 : ST cx := (⟨[], [], []⟩ : ST cx)
def u2 (k : Nat) : T2 := uK (run E h k c1) s2 (K3 k)
abbrev l2 (k : Nat) : T2 := cutK (run E h k c1) s2 (K3 k)
abbrev s1 := fun x0 x1 x7 x8 => (⟨[(0, .v (.slice 24 (.slice 3 (.int .i64))) .ro x0), (1, .v (.clo 81 (.pair (.box (.int .i64)) (.pair (.box (.int .i64)) (.pair (.box (.int .i64)) (.pair (.box (.int .u8)) (.pair (.box ty0) .unit)))))) .ro x1), (7, .v (.int .i64) .ro x7), (8, .v (.int .i64) .ro x8)], [], []⟩ : ST cx)
def u1 (k n1 : Nat) : T1 := fun x0 x1 x7 x8 => uK (loopL E h k c3 (K7 k) n1) (s1 x0 x1 x7 x8) ()
abbrev l1 (k n1 : Nat) : T1 := fun x0 x1 x7 x8 => cutK (loopL E h k c3 (K7 k) n1) (s1 x0 x1 x7 x8) ()
def u0 (k : Nat) : T0 := fun x0 x1 => runOf (S := cx) E h k Try.f91 [.val (.slice 24 (.slice 3 (.int .i64))), .val (.clo 81 (.pair (.box (.int .i64)) (.pair (.box (.int .i64)) (.pair (.box (.int .i64)) (.pair (.box (.int .u8)) (.pair (.box ty0) .unit))))))] (.int .i64) .ro (x0, x1, ())
def t2 : T2 := 
  (some ((-1 : Int), ()))
theorem e2 (k : Nat) : u2 k = t2 := by kernel_rfl
theorem g2 (k : Nat) : l2 k = u2 k := cut_u _ _ _
def p2 (k : Nat) : T2 := t2
theorem o2 (k : Nat) : l2 k = p2 k := (Eq.trans (b := u2 k) (g2 k) (Eq.trans (b := t2) (e2 k) (by kernel_rfl)))
def t1 (f1 : T1) (f2 : T2) : T1 := fun x0 x1 x7 x8 => (iteB (decide (x8 < x7)) (wnR x8 (List.length x0) fun q1 => (bindR (s_Q44 ((List.getD x0 q1 ([] : List Int)), (x1.1, (x1.2.1, (x1.2.2.1, (x1.2.2.2.1, (x1.2.2.2.2.1, ()))))))) fun r2 => (iteB r2.1 (some (x8, ())) (f1 x0 x1 x7 (w64 (x8 + (1 : Int))))))) f2)
theorem e1 (k n1 : Nat) : u1 k (n1 + 1) = t1 (l1 k n1) (l2 k) := by kernel_rfl
theorem g1 (k n1 : Nat) : l1 k (n1 + 1) = u1 k (n1 + 1) := funext fun _ => funext fun _ => funext fun _ => funext fun _ => cut_u _ _ _
def p1 (k : Nat) : Nat → T1
  | 0 => fun _ _ _ _ => none
  | n1 + 1 => t1 (p1 k n1) (p2 k)
theorem o1 (k : Nat) : ∀ n1, l1 k n1 = p1 k n1 := by
  intro n1
  induction n1 with
  | zero => kernel_rfl
  | succ n1 ih => exact (Eq.trans (b := u1 k (n1 + 1)) (g1 k n1) (Eq.trans (b := t1 (l1 k n1) (l2 k)) (e1 k n1) (Eq.trans (b := t1 (p1 k n1) (p2 k)) (congr (congrArg t1 ih) (o2 k)) (by kernel_rfl))))
def t0 (f1 : T1) : T0 := fun x0 x1 => (f1 x0 x1 ((List.length x0 : Nat) : Int) (0 : Int))
theorem e0 (k : Nat) : u0 k = t0 (l1 k k) := by kernel_rfl
def p0 (k : Nat) : T0 := t0 (p1 k k)
theorem o0 (k : Nat) : u0 k = p0 k := (Eq.trans (b := t0 (l1 k k)) (e0 k) (Eq.trans (b := t0 (p1 k k)) (congrArg t0 (o1 k k)) (by kernel_rfl)))
end Q45
def s_Q45 (a : (List (List Int)) × ((Int × (Int × (Int × (Int × (D0 × Unit))))) × Unit)) : Option (Int × Unit) := Q45.p0 fuel a.1 a.2.1
def F_Q45 : FSpec cx.toNm := { ps := [.val (.slice 24 (.slice 3 (.int .i64))), .val (.clo 81 (.pair (.box (.int .i64)) (.pair (.box (.int .i64)) (.pair (.box (.int .i64)) (.pair (.box (.int .u8)) (.pair (.box ty0) .unit))))))], nres := 1, rt := (.int .i64), rm := .ro, f := s_Q45 }
theorem w_Q45 (a : (List (List Int)) × ((Int × (Int × (Int × (Int × (D0 × Unit))))) × Unit)) : runOf (S := cx) Q45.E Q45.h fuel Try.f91 F_Q45.ps F_Q45.rt F_Q45.rm a = F_Q45.f a := Eq.trans (b := Q45.u0 fuel a.1 a.2.1) (by kernel_rfl) (Eq.trans (b := Q45.p0 fuel a.1 a.2.1) (congrFun (congrFun (Q45.o0 fuel) a.1) a.2.1) (by kernel_rfl))
theorem ok_Q45 : FnOk Try.prog F_Q45 91 := fn_of (hn := Q45.h) (E := Q45.E) cxOk (tysT _ _) (fs_cons ok_Q44 fs_nil) follows Try.func91 (by kernel_rfl) (fun a r h => ⟨fuel, Eq.trans (w_Q45 a) h⟩)
namespace Q46
def E : Env cx := { tys := tys, fs := fsOf [(91, F_Q45)] }
abbrev R := Option (Bool × Unit)
abbrev C := Exit → ST cx → R
noncomputable def b : Code := bodyC Try.f80
def h : Hint := { vs := [0, 1, 4], nil := [], cuts := [], ret := ([4], []), ords := [] }
abbrev T0 := (List (List Int)) → (Int × (Int × (Int × (Int × (D0 × Unit))))) → R
def u0 (k : Nat) : T0 := fun x0 x1 => runOf (S := cx) E h k Try.f80 [.val (.slice 24 (.slice 3 (.int .i64))), .val (.clo 81 (.pair (.box (.int .i64)) (.pair (.box (.int .i64)) (.pair (.box (.int .i64)) (.pair (.box (.int .u8)) (.pair (.box ty0) .unit))))))] .bool .ro (x0, x1, ())
def t0 : T0 := fun x0 x1 => (bindR (s_Q45 (x0, (x1, ()))) fun r1 => (some ((decide ((0 : Int) ≤ r1.1)), ())))
theorem e0 (k : Nat) : u0 k = t0 := by kernel_rfl
def p0 (k : Nat) : T0 := t0
theorem o0 (k : Nat) : u0 k = p0 k := (Eq.trans (b := t0) (e0 k) (by kernel_rfl))
end Q46
def s_Q46 (a : (List (List Int)) × ((Int × (Int × (Int × (Int × (D0 × Unit))))) × Unit)) : Option (Bool × Unit) := Q46.p0 fuel a.1 a.2.1
def F_Q46 : FSpec cx.toNm := { ps := [.val (.slice 24 (.slice 3 (.int .i64))), .val (.clo 81 (.pair (.box (.int .i64)) (.pair (.box (.int .i64)) (.pair (.box (.int .i64)) (.pair (.box (.int .u8)) (.pair (.box ty0) .unit))))))], nres := 1, rt := .bool, rm := .ro, f := s_Q46 }
theorem w_Q46 (a : (List (List Int)) × ((Int × (Int × (Int × (Int × (D0 × Unit))))) × Unit)) : runOf (S := cx) Q46.E Q46.h fuel Try.f80 F_Q46.ps F_Q46.rt F_Q46.rm a = F_Q46.f a := Eq.trans (b := Q46.u0 fuel a.1 a.2.1) (by kernel_rfl) (Eq.trans (b := Q46.p0 fuel a.1 a.2.1) (congrFun (congrFun (Q46.o0 fuel) a.1) a.2.1) (by kernel_rfl))
theorem ok_Q46 : FnOk Try.prog F_Q46 80 := fn_of (hn := Q46.h) (E := Q46.E) cxOk (tysT _ _) (fs_cons ok_Q45 fs_nil) follows Try.func80 (by kernel_rfl) (fun a r h => ⟨fuel, Eq.trans (w_Q46 a) h⟩)
namespace Q47
def E : Env cx := { tys := tys, fs := fsOf [(80, F_Q46)] }
abbrev R := Option (Bool × Unit)
abbrev C := Exit → ST cx → R
noncomputable def b : Code := bodyC Try.f64
def h : Hint := { vs := [0, 1, 2, 3, 4, 5, 6, 7, 9, 10, 11, 12], nil := [], cuts := [], ret := ([12], [6, 7, 9, 10, 11]), ords := [] }
abbrev T0 := D0 → Int → (List (List Int)) → Int → Int → Int → R
def u0 (k : Nat) : T0 := fun x0 x1 x2 x3 x4 x5 => runOf (S := cx) E h k Try.f64 [.val ty0, .val (.int .u8), .val (.slice 24 (.slice 3 (.int .i64))), .val (.int .i64), .val (.int .i64), .val (.int .i64)] .bool .ro (x0, x1, x2, x3, x4, x5, ())
def t0 : T0 := fun x0 x1 x2 x3 x4 x5 => (bindR (s_Q46 (x2, ((x3, (x4, (x5, (x1, (x0, ()))))), ()))) fun r1 => (some ((notB r1.1), ())))
theorem e0 (k : Nat) : u0 k = t0 := by kernel_rfl
def p0 (k : Nat) : T0 := t0
theorem o0 (k : Nat) : u0 k = p0 k := (Eq.trans (b := t0) (e0 k) (by kernel_rfl))
end Q47
def s_Q47 (a : D0 × (Int × ((List (List Int)) × (Int × (Int × (Int × Unit)))))) : Option (Bool × Unit) := Q47.p0 fuel a.1 a.2.1 a.2.2.1 a.2.2.2.1 a.2.2.2.2.1 a.2.2.2.2.2.1
def F_Q47 : FSpec cx.toNm := { ps := [.val ty0, .val (.int .u8), .val (.slice 24 (.slice 3 (.int .i64))), .val (.int .i64), .val (.int .i64), .val (.int .i64)], nres := 1, rt := .bool, rm := .ro, f := s_Q47 }
theorem w_Q47 (a : D0 × (Int × ((List (List Int)) × (Int × (Int × (Int × Unit)))))) : runOf (S := cx) Q47.E Q47.h fuel Try.f64 F_Q47.ps F_Q47.rt F_Q47.rm a = F_Q47.f a := Eq.trans (b := Q47.u0 fuel a.1 a.2.1 a.2.2.1 a.2.2.2.1 a.2.2.2.2.1 a.2.2.2.2.2.1) (by kernel_rfl) (Eq.trans (b := Q47.p0 fuel a.1 a.2.1 a.2.2.1 a.2.2.2.1 a.2.2.2.2.1 a.2.2.2.2.2.1) (congrFun (congrFun (congrFun (congrFun (congrFun (congrFun (Q47.o0 fuel) a.1) a.2.1) a.2.2.1) a.2.2.2.1) a.2.2.2.2.1) a.2.2.2.2.2.1) (by kernel_rfl))
theorem ok_Q47 : FnOk Try.prog F_Q47 64 := fn_of (hn := Q47.h) (E := Q47.E) cxOk (tysT _ _) (fs_cons ok_Q46 fs_nil) follows Try.func64 (by kernel_rfl) (fun a r h => ⟨fuel, Eq.trans (w_Q47 a) h⟩)
namespace Q48
def E : Env cx := { tys := tys, fs := fsOf [(56, F_Q21), (57, F_Q30), (60, F_Q33), (62, F_Q17), (63, F_Q20), (64, F_Q47)] }
abbrev R := Option (Bool × Unit)
abbrev C := Exit → ST cx → R
noncomputable def b : Code := bodyC Try.f36
def h : Hint := { vs := [0, 1, 2, 3, 4, 5, 6], nil := [], cuts := [(3, ([1, 3, 8], [3]), ([1], [])), (5, ([1, 3, 38], [3]), ([1], [])), (10, ([1], []), ([1], [])), (12, ([1, 4, 5, 6], []), ([1], [])), (13, ([1, 4, 5, 6], []), ([1, 4, 5, 6], [])), (15, ([1, 4, 5, 6, 84], []), ([1, 4, 5, 6], [])), (16, ([1], []), ([1], []))], ret := ([2], [1, 3]), ords := [(10, [0, 2, 1, 3, 4, 5])], clos := [(3, (.clo 54 (.pair (.box ty0) .unit)))] }
def K0 : C := fin (S := cx) E Try.f36.results.toList .bool .ro [] []
def c0 : Code := subC b [1]
def K1 (k : Nat) : C := outD h c0 K0
def c1 : Code := subC b [1, 1]
def K3 (k : Nat) : C := outD h c1 (K1 k)
def c2 : Code := subC b [1, 1, 1]
def K5 (k : Nat) : C := outD h c2 (K3 k)
def K6 (k : Nat) : C := seqC E h k c2 (K3 k)
def K7 (k : Nat) : C := blockK 0 (K6 k)
def c3 : Code := subC b [1, 1, 0, 0, 1]
def K8 (k : Nat) : C := outD h c3 (K7 k)
def c5 : Code := subC b [1, 1, 0, 0, 1, 1, 1]
def K12 (k : Nat) : C := outD h c5 (K8 k)
def c11 : Code := subC b [1, 1, 1, 1]
def K24 (k : Nat) : C := outD h c11 (K5 k)
def c12 : Code := subC b [1, 1, 1, 1, 1]
def K26 (k : Nat) : C := outD h c12 (K24 k)
def K27 (k : Nat) : C := seqC E h k c12 (K24 k)
def c13 : Code := subC b [1, 1, 1, 1, 0, 1]
def K28 (k : Nat) : C := outD h c13 (K27 k)
def K30 (k : Nat) : C := blockK 1 (K28 k)
def c14 : Code := subC b [1, 1, 1, 1, 0, 1, 0, 0]
def K31 (k n4 : Nat) : C := loopD E h k c14 (K30 k) n4
def c15 : Code := subC b [1, 1, 1, 1, 0, 1, 0, 0, 1]
def K32 (k n4 : Nat) : C := outD h c15 (K31 k n4)
def c17 : Code := subC b [1, 1, 1, 1, 0, 1, 0, 0, 1, 1]
def K36 (k n4 : Nat) : C := outD h c17 (K32 k n4)
def K37 (k n4 : Nat) : C := seqC E h k c17 (K32 k n4)
def K38 (k n4 : Nat) : C := blockK 2 (K37 k n4)
def c18 : Code := subC b [1, 1, 1, 1, 0, 1, 0, 0, 1, 0, 0, 1]
def K39 (k n4 : Nat) : C := outD h c18 (K38 k n4)
abbrev T7 := D0 → (List Bool) → (List Bool) → Int → R
abbrev T5 := D0 → (List Bool) → (List Bool) → Int → Bool → R
abbrev T6 := D0 → R
abbrev T4 := D0 → (List Bool) → (List Bool) → Int → R
abbrev T3 := D0 → R
abbrev T2 := D0 → Bool → (D0 × Unit) → R
abbrev T1 := D0 → Bool → (D0 × Unit) → R
abbrev T0 := D0 → R
abbrev s7 := fun x1 x4 x5 x6 => (⟨[(1, .rp ty0 x1), (4, .v (.slice 4 .bool) .ro x4), (5, .v (.slice 4 .bool) .ro x5), (6, .v (.int .i64) .ro x6)], [], []⟩ : ST cx)
def u7 (k n4 : Nat) : T7 := fun x1 x4 x5 x6 => uK (run E h k c17) (s7 x1 x4 x5 x6) (K36 k n4)
abbrev l7 (k n4 : Nat) : T7 := fun x1 x4 x5 x6 => cutK (run E h k c17) (s7 x1 x4 x5 x6) (K36 k n4)
abbrev s5 := fun x1 x4 x5 x6 x84 => (⟨[(1, .rp ty0 x1), (4, .v (.slice 4 .bool) .ro x4), (5, .v (.slice 4 .bool) .ro x5), (6, .v (.int .i64) .ro x6), (84, .v .bool .ro x84)], [], []⟩ : ST cx)
def u5 (k n4 : Nat) : T5 := fun x1 x4 x5 x6 x84 => uK (run E h k c18) (s5 x1 x4 x5 x6 x84) (K39 k n4)
abbrev l5 (k n4 : Nat) : T5 := fun x1 x4 x5 x6 x84 => cutK (run E h k c18) (s5 x1 x4 x5 x6 x84) (K39 k n4)
abbrev s6 := fun x1 => (⟨[(1, .rp ty0 x1)], [], []⟩ : ST cx)
def u6 (k : Nat) : T6 := fun x1 => uK (run E h k c12) (s6 x1) (K26 k)
abbrev l6 (k : Nat) : T6 := fun x1 => cutK (run E h k c12) (s6 x1) (K26 k)
abbrev s4 := fun x1 x4 x5 x6 => (⟨[(1, .rp ty0 x1), (4, .v (.slice 4 .bool) .ro x4), (5, .v (.slice 4 .bool) .ro x5), (6, .v (.int .i64) .ro x6)], [], []⟩ : ST cx)
def u4 (k n4 : Nat) : T4 := fun x1 x4 x5 x6 => uK (loopL E h k c14 (K30 k) n4) (s4 x1 x4 x5 x6) ()
abbrev l4 (k n4 : Nat) : T4 := fun x1 x4 x5 x6 => cutK (loopL E h k c14 (K30 k) n4) (s4 x1 x4 x5 x6) ()
abbrev s3 := fun x1 => (⟨[(1, .rp ty0 x1)], [], []⟩ : ST cx)
def u3 (k : Nat) : T3 := fun x1 => uK (run E h k c2) (s3 x1) (K5 k)
abbrev l3 (k : Nat) : T3 := fun x1 => cutK (run E h k c2) (s3 x1) (K5 k)
abbrev s2 := fun x1 x38 m3 => (⟨[(1, .rp ty0 x1), (3, .addr (.mem 3) []), (38, .v .bool .ro x38)], [], [(3, ⟨(.clo 54 (.pair (.box ty0) .unit)), .ro, m3⟩)]⟩ : ST cx)
def u2 (k : Nat) : T2 := fun x1 x38 m3 => uK (run E h k c5) (s2 x1 x38 m3) (K12 k)
abbrev l2 (k : Nat) : T2 := fun x1 x38 m3 => cutK (run E h k c5) (s2 x1 x38 m3) (K12 k)
abbrev s1 := fun x1 x8 m3 => (⟨[(1, .rp ty0 x1), (3, .addr (.mem 3) []), (8, .v .bool .ro x8)], [], [(3, ⟨(.clo 54 (.pair (.box ty0) .unit)), .ro, m3⟩)]⟩ : ST cx)
def u1 (k : Nat) : T1 := fun x1 x8 m3 => uK (run E h k c3) (s1 x1 x8 m3) (K8 k)
abbrev l1 (k : Nat) : T1 := fun x1 x8 m3 => cutK (run E h k c3) (s1 x1 x8 m3) (K8 k)
def u0 (k : Nat) : T0 := fun x0 => runOf (S := cx) E h k Try.f36 [.val ty0] .bool .ro (x0, ())
def t7 (f4 : T4) : T7 := fun x1 x4 x5 x6 => (f4 x1 x4 x5 (w64 (x6 + (1 : Int))))
theorem e7 (k n4 : Nat) : u7 k n4 = t7 (l4 k n4) := by kernel_rfl
theorem g7 (k n4 : Nat) : l7 k n4 = u7 k n4 := funext fun _ => funext fun _ => funext fun _ => funext fun _ => cut_u _ _ _
def p7 (k : Nat) (a4 : T4) : T7 := t7 a4
theorem o7 (k n4 : Nat) (a4 : T4) (h4 : l4 k n4 = a4) : l7 k n4 = p7 k a4 := (Eq.trans (b := u7 k n4) (g7 k n4) (Eq.trans (b := t7 (l4 k n4)) (e7 k n4) (Eq.trans (b := t7 a4) (congrArg t7 h4) (by kernel_rfl))))
def t5 (f7 : T7) : T5 := fun x1 x4 x5 x6 x84 => (iteB x84 (some (false, ())) (f7 x1 x4 x5 x6))
theorem e5 (k n4 : Nat) : u5 k n4 = t5 (l7 k n4) := by kernel_rfl
theorem g5 (k n4 : Nat) : l5 k n4 = u5 k n4 := funext fun _ => funext fun _ => funext fun _ => funext fun _ => funext fun _ => cut_u _ _ _
def p5 (k : Nat) (a4 : T4) : T5 := t5 (p7 k a4)
theorem o5 (k n4 : Nat) (a4 : T4) (h4 : l4 k n4 = a4) : l5 k n4 = p5 k a4 := (Eq.trans (b := u5 k n4) (g5 k n4) (Eq.trans (b := t5 (l7 k n4)) (e5 k n4) (Eq.trans (b := t5 (p7 k a4)) (congrArg t5 (o7 k n4 a4 h4)) (by kernel_rfl))))
def t6 : T6 := fun x1 => (bindR (s_Q47 (x1, ((1 : Int), (x1.2.2.2.2.2.2.1, ((5 : Int), ((0 : Int), ((3 : Int), ()))))))) fun r8 => (iteB r8.1 (bindR (s_Q47 (x1, ((2 : Int), (x1.2.2.2.2.2.2.2.1, ((5 : Int), ((1 : Int), ((5 : Int), ()))))))) fun r9 => (iteB r9.1 (bindR (s_Q47 (x1, ((3 : Int), (x1.2.2.2.2.2.2.2.2, ((3 : Int), ((1 : Int), ((3 : Int), ()))))))) fun r10 => (some (r10.1, ()))) (some (false, ())))) (some (false, ()))))
theorem e6 (k : Nat) : u6 k = t6 := by kernel_rfl
theorem g6 (k : Nat) : l6 k = u6 k := funext fun _ => cut_u _ _ _
def p6 (k : Nat) : T6 := t6
theorem o6 (k : Nat) : l6 k = p6 k := (Eq.trans (b := u6 k) (g6 k) (Eq.trans (b := t6) (e6 k) (by kernel_rfl)))
def t4 (f5 : T5) (f6 : T6) : T4 := fun x1 x4 x5 x6 => (iteB (decide (x6 < ((List.length x1.1 : Nat) : Int))) (wnR x6 (List.length x4) fun q6 => (iteB (notB (List.getD x4 q6 false)) (f5 x1 x4 x5 x6 true) (wnR x6 (List.length x5) fun q7 => (f5 x1 x4 x5 x6 (notB (List.getD x5 q7 false)))))) (f6 x1))
theorem e4 (k n4 : Nat) : u4 k (n4 + 1) = t4 (l5 k n4) (l6 k) := by kernel_rfl
theorem g4 (k n4 : Nat) : l4 k (n4 + 1) = u4 k (n4 + 1) := funext fun _ => funext fun _ => funext fun _ => funext fun _ => cut_u _ _ _
def p4 (k : Nat) : Nat → T4
  | 0 => fun _ _ _ _ => none
  | n4 + 1 => t4 (p5 k (p4 k n4)) (p6 k)
theorem o4 (k : Nat) : ∀ n4, l4 k n4 = p4 k n4 := by
  intro n4
  induction n4 with
  | zero => kernel_rfl
  | succ n4 ih => exact (Eq.trans (b := u4 k (n4 + 1)) (g4 k n4) (Eq.trans (b := t4 (l5 k n4) (l6 k)) (e4 k n4) (Eq.trans (b := t4 (p5 k (p4 k n4)) (p6 k)) (congr (congrArg t4 (o5 k n4 (p4 k n4) ih)) (o6 k)) (by kernel_rfl))))
def t3 (f4 : T4) : T3 := fun x1 => (bindR (s_Q17 (x1, ())) fun r4 => (bindR (s_Q20 (x1, ())) fun r5 => (f4 x1 r4.1 r5.1 (w64 (x1.2.1 + (1 : Int))))))
theorem e3 (k : Nat) : u3 k = t3 (l4 k k) := by kernel_rfl
theorem g3 (k : Nat) : l3 k = u3 k := funext fun _ => cut_u _ _ _
def p3 (k : Nat) : T3 := t3 (p4 k k)
theorem o3 (k : Nat) : l3 k = p3 k := (Eq.trans (b := u3 k) (g3 k) (Eq.trans (b := t3 (l4 k k)) (e3 k) (Eq.trans (b := t3 (p4 k k)) (congrArg t3 (o4 k k)) (by kernel_rfl))))
def t2 (f3 : T3) : T2 := fun x1 x38 m3 => (iteB x38 (some (false, ())) (bindR (s_Q30 (x1.2.2.2.1, ((x1, (m3, ())), ()))) fun r2 => (iteB r2.1 (some (false, ())) (bindR (s_Q33 (x1.2.2.2.2.1, ((x1, ()), ()))) fun r3 => (iteB r3.1 (some (false, ())) (f3 x1))))))
theorem e2 (k : Nat) : u2 k = t2 (l3 k) := by kernel_rfl
theorem g2 (k : Nat) : l2 k = u2 k := funext fun _ => funext fun _ => funext fun _ => cut_u _ _ _
def p2 (k : Nat) : T2 := t2 (p3 k)
theorem o2 (k : Nat) : l2 k = p2 k := (Eq.trans (b := u2 k) (g2 k) (Eq.trans (b := t2 (l3 k)) (e2 k) (Eq.trans (b := t2 (p3 k)) (congrArg t2 (o3 k)) (by kernel_rfl))))
def t1 (f2 : T2) : T1 := fun x1 x8 m3 => (iteB x8 (some (false, ())) (iteB (decide (((List.length x1.2.2.2.1 : Nat) : Int) < (1 : Int))) (f2 x1 true m3) (f2 x1 (decide ((64 : Int) < ((List.length x1.2.2.2.1 : Nat) : Int))) m3)))
theorem e1 (k : Nat) : u1 k = t1 (l2 k) := by kernel_rfl
theorem g1 (k : Nat) : l1 k = u1 k := funext fun _ => funext fun _ => funext fun _ => cut_u _ _ _
def p1 (k : Nat) : T1 := t1 (p2 k)
theorem o1 (k : Nat) : l1 k = p1 k := (Eq.trans (b := u1 k) (g1 k) (Eq.trans (b := t1 (l2 k)) (e1 k) (Eq.trans (b := t1 (p2 k)) (congrArg t1 (o2 k)) (by kernel_rfl))))
def t0 (f1 : T1) : T0 := fun x0 => (iteB (decide (x0.2.1 < (1 : Int))) (f1 x0 true (x0, ())) (iteB (decide ((32 : Int) < x0.2.1)) (f1 x0 true (x0, ())) (bindR (s_Q21 (x0, (x0.2.2.1, ()))) fun r1 => (iteB (notB r1.1) (f1 x0 true (x0, ())) (iteB (!decide (((List.length x0.2.2.2.2.2.1 : Nat) : Int) = x0.2.1)) (f1 x0 true (x0, ())) (f1 x0 (decide ((32 : Int) < ((List.length x0.2.2.2.2.1 : Nat) : Int))) (x0, ())))))))
theorem e0 (k : Nat) : u0 k = t0 (l1 k) := by kernel_rfl
def p0 (k : Nat) : T0 := t0 (p1 k)
theorem o0 (k : Nat) : u0 k = p0 k := (Eq.trans (b := t0 (l1 k)) (e0 k) (Eq.trans (b := t0 (p1 k)) (congrArg t0 (o1 k)) (by kernel_rfl)))
end Q48
def s_Q48 (a : D0 × Unit) : Option (Bool × Unit) := Q48.p0 fuel a.1
def F_Q48 : FSpec cx.toNm := { ps := [.val ty0], nres := 1, rt := .bool, rm := .ro, f := s_Q48 }
theorem w_Q48 (a : D0 × Unit) : runOf (S := cx) Q48.E Q48.h fuel Try.f36 F_Q48.ps F_Q48.rt F_Q48.rm a = F_Q48.f a := Eq.trans (b := Q48.u0 fuel a.1) (by kernel_rfl) (Eq.trans (b := Q48.p0 fuel a.1) (congrFun (Q48.o0 fuel) a.1) (by kernel_rfl))
theorem ok_Q48 : FnOk Try.prog F_Q48 36 := fn_of (hn := Q48.h) (E := Q48.E) cxOk (tysT _ _) (fs_cons ok_Q21 (fs_cons ok_Q30 (fs_cons ok_Q33 (fs_cons ok_Q17 (fs_cons ok_Q20 (fs_cons ok_Q47 fs_nil)))))) follows Try.func36 (by kernel_rfl) (fun a r h => ⟨fuel, Eq.trans (w_Q48 a) h⟩)
end
end Go.Proofs.Ytdnkjfmneppkoaa.Vm.Tr
