/- What the other functions compute, as plain functions; that they do. -/
import Derived.Test.YtndffgpoljojaaaFns
import Derived.KernelRfl
namespace Go.Proofs.Ytndffgpoljojaaa.Vm.Rx
open Go Go.Proofs.Ytndffgpoljojaaa.Vm Go.Proofs
set_option linter.unusedVariables false
set_option maxRecDepth 100000
noncomputable section
def Fr_ref06_Count (f : D28 → Option D19) : FSpec cx.toNm := { ps := [.val t7, .val (.int .i64)], nres := 1, rt := (.int .i64), rm := .ro, f := f }
namespace ref06_Count
def E (sf_ref06_Count : D28 → Option D19) : Env cx := { tys := tys, fs := fsOf [(8, Fr_ref06_Count sf_ref06_Count)] }
abbrev R := Option (D19)
def h : Hint := { vs := [0, 1, 2, 4, 5, 6, 7], ret := ([4], [2]), cuts := [(2, ([1, 2, 20], [2]), ([1, 2], [2])), (3, ([1, 2], [2]), ([1, 2], [2])), (4, ([1, 2, 40], [2]), ([1, 2], [2])), (5, ([1, 2], [2]), ([1, 2], [2])), (7, ([1, 2, 5, 6], [2]), ([5], [])), (15, ([5], []), ([5], []))] }
def W (sf_ref06_Count : D28 → Option D19) : Pr cx (D19) := ⟨(E sf_ref06_Count), h, bodyC Try.f8, fin (S := cx) (E sf_ref06_Count) Try.f8.results.toList (.int .i64) .ro [] []⟩
abbrev T6 := Int → R
abbrev T5 := Int → Int → Int → D2 → R
abbrev T4 := Int → D2 → R
abbrev T3 := Int → Bool → D2 → R
abbrev T2 := Int → D2 → R
abbrev T1 := Int → Bool → D2 → R
abbrev T0 := D28 → R
def u0 (sf_ref06_Count : D28 → Option D19) (k : Nat) : T0 := fun a => runOf (S := cx) (E sf_ref06_Count) h k Try.f8 [.val t7, .val (.int .i64)] (.int .i64) .ro a
abbrev l6 (sf_ref06_Count : D28 → Option D19) (c : Bool) (k : Nat) : T6 := fun x5 => lfR c (W sf_ref06_Count) k [1, 1, 1, 1, 1] [] ⟨[(5, vI x5)], [], []⟩
abbrev l5 (sf_ref06_Count : D28 → Option D19) (c : Bool) (k n5 : Nat) : T5 := fun x1 x5 x6 m2 => lfL c (W sf_ref06_Count) k [1, 1, 1, 1, 0, 1, 0] [] n5 ⟨[(1, vI x1), (2, vA 2), (5, vI x5), (6, vI x6)], [], [(2, ⟨t7, .ro, m2⟩)]⟩
abbrev l4 (sf_ref06_Count : D28 → Option D19) (c : Bool) (k : Nat) : T4 := fun x1 m2 => lfR c (W sf_ref06_Count) k [1, 1, 1] [] ⟨[(1, vI x1), (2, vA 2)], [], [(2, ⟨t7, .ro, m2⟩)]⟩
abbrev l3 (sf_ref06_Count : D28 → Option D19) (c : Bool) (k : Nat) : T3 := fun x1 x40 m2 => lfR c (W sf_ref06_Count) k [1, 1, 0, 1] [] ⟨[(1, vI x1), (2, vA 2), (40, vB x40)], [], [(2, ⟨t7, .ro, m2⟩)]⟩
abbrev l2 (sf_ref06_Count : D28 → Option D19) (c : Bool) (k : Nat) : T2 := fun x1 m2 => lfR c (W sf_ref06_Count) k [1, 1] [] ⟨[(1, vI x1), (2, vA 2)], [], [(2, ⟨t7, .ro, m2⟩)]⟩
abbrev l1 (sf_ref06_Count : D28 → Option D19) (c : Bool) (k : Nat) : T1 := fun x1 x20 m2 => lfR c (W sf_ref06_Count) k [1, 0, 1] [] ⟨[(1, vI x1), (2, vA 2), (20, vB x20)], [], [(2, ⟨t7, .ro, m2⟩)]⟩
def t6 (sf_ref06_Count : D28 → Option D19) : T6 := fun x5 => (some (x5, ()))
def p6 (sf_ref06_Count : D28 → Option D19) (k : Nat) : T6 := t6 sf_ref06_Count
theorem o6 (sf_ref06_Count : D28 → Option D19) (k : Nat) : l6 sf_ref06_Count true k = p6 sf_ref06_Count k := lfo (b := l6 sf_ref06_Count false k) (fx1 fun _ => lcR) (by kernel_rfl) rfl
def t5 (sf_ref06_Count : D28 → Option D19) (f5 : T5) (f6 : T6) : T5 := fun x1 x5 x6 m2 => (iteB (decide (x6 < ((List.length m2.2.2 : Nat) : Int))) (withinR x6 (List.length m2.2.2) fun q1 => (bindR (sf_ref06_Count ((out0 (List.getD m2.2.2 q1 (pk0 ((0 : Int), ((List.replicate 4 (0 : Int)), ([] : List (N0))))))), ((w64 (x1 + (1 : Int))), ()))) fun r2 => (iteB (decide (r2.1 < (0 : Int))) (some ((-1 : Int), ())) (iteB (decide ((400 : Int) < (w64 (x5 + r2.1)))) (some ((-1 : Int), ())) (f5 x1 (w64 (x5 + r2.1)) (w64 (x6 + (1 : Int))) m2))))) (f6 x5))
def p5 (sf_ref06_Count : D28 → Option D19) (k : Nat) : Nat → T5 := iter fun f => t5 sf_ref06_Count f (p6 sf_ref06_Count k)
theorem o5 (sf_ref06_Count : D28 → Option D19) (k : Nat) : ∀ n, l5 sf_ref06_Count true k n = p5 sf_ref06_Count k n := oL (u := l5 sf_ref06_Count false k) (by kernel_rfl) (fun n5 => (fx4 fun _ _ _ _ => lcL)) (fun n5 => by kernel_rfl) (fun n5 f h => (congr (congrArg (t5 sf_ref06_Count) h) (o6 sf_ref06_Count k)))
def t4 (sf_ref06_Count : D28 → Option D19) (f5 : T5) : T4 := fun x1 m2 => (f5 x1 (1 : Int) (0 : Int) m2)
def p4 (sf_ref06_Count : D28 → Option D19) (k : Nat) : T4 := t4 sf_ref06_Count (p5 sf_ref06_Count k k)
theorem o4 (sf_ref06_Count : D28 → Option D19) (k : Nat) : l4 sf_ref06_Count true k = p4 sf_ref06_Count k := lfo (b := l4 sf_ref06_Count false k) (fx2 fun _ _ => lcR) (by kernel_rfl) (congrArg (t4 sf_ref06_Count) (o5 sf_ref06_Count k k))
def t3 (sf_ref06_Count : D28 → Option D19) (f4 : T4) : T3 := fun x1 x40 m2 => (iteB x40 (some ((-1 : Int), ())) (f4 x1 m2))
def p3 (sf_ref06_Count : D28 → Option D19) (k : Nat) : T3 := t3 sf_ref06_Count (p4 sf_ref06_Count k)
theorem o3 (sf_ref06_Count : D28 → Option D19) (k : Nat) : l3 sf_ref06_Count true k = p3 sf_ref06_Count k := lfo (b := l3 sf_ref06_Count false k) (fx3 fun _ _ _ => lcR) (by kernel_rfl) (congrArg (t3 sf_ref06_Count) (o4 sf_ref06_Count k))
def t2 (sf_ref06_Count : D28 → Option D19) (f3 : T3) : T2 := fun x1 m2 => (iteB (decide (m2.1 < (2 : Int))) (iteB (decide ((0 : Int) < ((List.length m2.2.2 : Nat) : Int))) (f3 x1 true m2) (iteB (decide (m2.1 = (4 : Int))) (f3 x1 (!decide (((List.length m2.2.2 : Nat) : Int) = (1 : Int))) m2) (f3 x1 false m2))) (iteB (decide (m2.1 = (4 : Int))) (f3 x1 (!decide (((List.length m2.2.2 : Nat) : Int) = (1 : Int))) m2) (f3 x1 false m2)))
def p2 (sf_ref06_Count : D28 → Option D19) (k : Nat) : T2 := t2 sf_ref06_Count (p3 sf_ref06_Count k)
theorem o2 (sf_ref06_Count : D28 → Option D19) (k : Nat) : l2 sf_ref06_Count true k = p2 sf_ref06_Count k := lfo (b := l2 sf_ref06_Count false k) (fx2 fun _ _ => lcR) (by kernel_rfl) (congrArg (t2 sf_ref06_Count) (o3 sf_ref06_Count k))
def t1 (sf_ref06_Count : D28 → Option D19) (f2 : T2) : T1 := fun x1 x20 m2 => (iteB x20 (some ((-1 : Int), ())) (f2 x1 m2))
def p1 (sf_ref06_Count : D28 → Option D19) (k : Nat) : T1 := t1 sf_ref06_Count (p2 sf_ref06_Count k)
theorem o1 (sf_ref06_Count : D28 → Option D19) (k : Nat) : l1 sf_ref06_Count true k = p1 sf_ref06_Count k := lfo (b := l1 sf_ref06_Count false k) (fx3 fun _ _ _ => lcR) (by kernel_rfl) (congrArg (t1 sf_ref06_Count) (o2 sf_ref06_Count k))
def t0 (sf_ref06_Count : D28 → Option D19) (f1 : T1) : T0 := fun a => (iteB (decide ((60 : Int) < a.2.1)) (f1 a.2.1 true a.1) (iteB (decide ((4 : Int) < a.1.1)) (f1 a.2.1 true a.1) (f1 a.2.1 (decide ((400 : Int) < ((List.length a.1.2.2 : Nat) : Int))) a.1)))
def p0 (sf_ref06_Count : D28 → Option D19) (k : Nat) : T0 := t0 sf_ref06_Count (p1 sf_ref06_Count k)
theorem o0 (sf_ref06_Count : D28 → Option D19) (k : Nat) : u0 sf_ref06_Count k = p0 sf_ref06_Count k := Eq.trans (by kernel_rfl) (congrArg (t0 sf_ref06_Count) (o1 sf_ref06_Count k))
end ref06_Count
def r_ref06_Count : Nat → D28 → Option D19
  | 0, _ => none
  | n + 1, a => ref06_Count.p0 (r_ref06_Count n) fuel a
theorem okr_ref06_Count : ∀ n, FnOk Try.prog (Fr_ref06_Count (r_ref06_Count n)) 8
  | 0 => fn_none (fun _ => rfl)
  | n + 1 => fn_of (F := Fr_ref06_Count (r_ref06_Count (n + 1))) (hn := ref06_Count.h) (E := ref06_Count.E (r_ref06_Count n)) cxOk (tysT _ _ _) (fs_cons (okr_ref06_Count n) fs_nil) follows Try.func8 (by kernel_rfl) (fun a r h => ⟨fuel, Eq.trans (congrFun (ref06_Count.o0 (r_ref06_Count n) fuel) a) h⟩)
def s_ref06_Count (a : D28) : Option D19 := r_ref06_Count fuel a
def F_ref06_Count : FSpec cx.toNm := Fr_ref06_Count s_ref06_Count
theorem ok_ref06_Count : FnOk Try.prog F_ref06_Count 8 := (okr_ref06_Count fuel)
namespace regex_Right
def E : Env cx := { tys := tys, fs := fsOf [(22, F_regex_size)] }
abbrev R := Option (D14)
def h : Hint := { vs := [0, 1, 2], ret := ([2], [1]) }
def W : Pr cx (D14) := ⟨E, h, bodyC Try.f11, fin (S := cx) E Try.f11.results.toList .bool .ro [] []⟩
abbrev T0 := D21 → R
def u0 (k : Nat) : T0 := fun a => runOf (S := cx) E h k Try.f11 [.val t7] .bool .ro a
def t0 : T0 := fun a => (bindR (s_regex_size (a.1, ((1 : Int), ()))) fun r1 => (some ((decide ((0 : Int) < r1.1)), ())))
def p0 (k : Nat) : T0 := t0
theorem o0 (k : Nat) : u0 k = p0 k := Eq.trans (by kernel_rfl) rfl
end regex_Right
def s_regex_Right (a : D21) : Option D14 := regex_Right.p0 fuel a
def F_regex_Right : FSpec cx.toNm := { ps := [.val t7], nres := 1, rt := .bool, rm := .ro, f := s_regex_Right }
theorem ok_regex_Right : FnOk Try.prog F_regex_Right 11 := fn_of (F := F_regex_Right) (hn := regex_Right.h) (E := regex_Right.E) cxOk (tysT _ _ _) (fs_cons ok_regex_size fs_nil) follows Try.func11 (by kernel_rfl) (fun a r h => ⟨fuel, (congrFun (regex_Right.o0 fuel) a).trans ((by kernel_rfl : s_regex_Right a = F_regex_Right.f a).trans h)⟩)
namespace bytesets_Has
def E : Env cx := { tys := tys, fs := fsOf [] }
abbrev R := Option (D14)
def h : Hint := { vs := [0, 1, 2, 4], ret := ([4], [2]) }
def W : Pr cx (D14) := ⟨E, h, bodyC Try.f37, fin (S := cx) E Try.f37.results.toList .bool .ro [] []⟩
abbrev T0 := D38 → R
def u0 (k : Nat) : T0 := fun a => runOf (S := cx) E h k Try.f37 [.val t3, .val (.int .u8)] .bool .ro a
def t0 : T0 := fun a => (withinR (w8 (Int.tdiv a.2.1 (64 : Int))) 4 fun q1 => (mustR (decide (0 ≤ (Int.tmod a.2.1 (64 : Int)))) (some ((decide ((bitI .and .u64 (shrI .u64 (List.getD a.1 q1 (0 : Int)) (Int.tmod a.2.1 (64 : Int))) (1 : Int)) = (1 : Int))), ()))))
def p0 (k : Nat) : T0 := t0
theorem o0 (k : Nat) : u0 k = p0 k := Eq.trans (by kernel_rfl) rfl
end bytesets_Has
def s_bytesets_Has (a : D38) : Option D14 := bytesets_Has.p0 fuel a
def F_bytesets_Has : FSpec cx.toNm := { ps := [.val t3, .val (.int .u8)], nres := 1, rt := .bool, rm := .ro, f := s_bytesets_Has }
theorem ok_bytesets_Has : FnOk Try.prog F_bytesets_Has 37 := fn_of (F := F_bytesets_Has) (hn := bytesets_Has.h) (E := bytesets_Has.E) cxOk (tysT _ _ _) fs_nil follows Try.func37 (by kernel_rfl) (fun a r h => ⟨fuel, (congrFun (bytesets_Has.o0 fuel) a).trans ((by kernel_rfl : s_bytesets_Has a = F_bytesets_Has.f a).trans h)⟩)
namespace regex_none
def E : Env cx := { tys := tys, fs := fsOf [] }
abbrev R := Option (D34)
def h : Hint := { vs := [0, 2, 3, 4, 9, 10], ret := ([2], []), nil := [(3, m_1), (7, m_1), (2, m_1)], cuts := [(3, ([0, 3, 9, 10], []), ([3], [])), (7, ([3], []), ([3], []))] }
def W : Pr cx (D34) := ⟨E, h, bodyC Try.f39, fin (S := cx) E Try.f39.results.toList t20 m_1 [] []⟩
abbrev T2 := D9 → R
abbrev T1 := Int → D9 → Int → Int → R
abbrev T0 := D19 → R
def u0 (k : Nat) : T0 := fun a => runOf (S := cx) E h k Try.f39 [.val (.int .i64)] t20 m_1 a
abbrev l2 (c : Bool) (k : Nat) : T2 := fun x3 => lfR c W k [1, 1, 1] [] ⟨[(3, .v t20 m_1 x3)], [], []⟩
abbrev l1 (c : Bool) (k n1 : Nat) : T1 := fun x0 x3 x9 x10 => lfL c W k [1, 1, 0, 1, 0] [] n1 ⟨[(0, vI x0), (3, .v t20 m_1 x3), (9, vI x9), (10, vI x10)], [], []⟩
def t2 : T2 := fun x3 => (some (x3, ()))
def p2 (k : Nat) : T2 := t2
theorem o2 (k : Nat) : l2 true k = p2 k := lfo (b := l2 false k) (fx1 fun _ => lcR) (by kernel_rfl) rfl
def t1 (f1 : T1) (f2 : T2) : T1 := fun x0 x3 x9 x10 => (iteB (decide (x10 < x9)) (mustR (decide ((w64 (x0 + (1 : Int))) = (w64 (x0 + (1 : Int))) ∧ (0 : Int) ≤ (w64 (x0 + (1 : Int))) ∧ (w64 (x0 + (1 : Int))) ≤ (16777216 : Int))) (withinR x10 (List.length x3) fun q1 => (f1 x0 (List.set x3 q1 (List.replicate (Int.toNat (w64 (x0 + (1 : Int)))) false)) x9 (w64 (x10 + (1 : Int)))))) (f2 x3))
def p1 (k : Nat) : Nat → T1 := iter fun f => t1 f (p2 k)
theorem o1 (k : Nat) : ∀ n, l1 true k n = p1 k n := oL (u := l1 false k) (by kernel_rfl) (fun n1 => (fx4 fun _ _ _ _ => lcL)) (fun n1 => by kernel_rfl) (fun n1 f h => (congr (congrArg t1 h) (o2 k)))
def t0 (f1 : T1) : T0 := fun a => (mustR (decide ((w64 (a.1 + (1 : Int))) = (w64 (a.1 + (1 : Int))) ∧ (0 : Int) ≤ (w64 (a.1 + (1 : Int))) ∧ (w64 (a.1 + (1 : Int))) ≤ (16777216 : Int))) (f1 a.1 (List.replicate (Int.toNat (w64 (a.1 + (1 : Int)))) ([] : List (Bool))) ((List.length (List.replicate (Int.toNat (w64 (a.1 + (1 : Int)))) ([] : List (Bool))) : Nat) : Int) (0 : Int)))
def p0 (k : Nat) : T0 := t0 (p1 k k)
theorem o0 (k : Nat) : u0 k = p0 k := Eq.trans (by kernel_rfl) (congrArg t0 (o1 k k))
end regex_none
def s_regex_none (a : D19) : Option D34 := regex_none.p0 fuel a
def F_regex_none : FSpec cx.toNm := { ps := [.val (.int .i64)], nres := 1, rt := t20, rm := m_1, f := s_regex_none }
theorem ok_regex_none : FnOk Try.prog F_regex_none 39 := fn_of (F := F_regex_none) (hn := regex_none.h) (E := regex_none.E) cxOk (tysT _ _ _) fs_nil follows Try.func39 (by kernel_rfl) (fun a r h => ⟨fuel, (congrFun (regex_none.o0 fuel) a).trans ((by kernel_rfl : s_regex_none a = F_regex_none.f a).trans h)⟩)
namespace regex_nothing
def E : Env cx := { tys := tys, fs := fsOf [(39, F_regex_none)] }
abbrev R := Option (D34)
def h : Hint := { vs := [0, 2, 3, 4, 8, 9], ret := ([2], []), nil := [(3, m_1), (2, m_1)], cuts := [(3, ([3, 8, 9], []), ([3], [])), (7, ([3], []), ([3], []))] }
def W : Pr cx (D34) := ⟨E, h, bodyC Try.f36, fin (S := cx) E Try.f36.results.toList t20 m_1 [] []⟩
abbrev T2 := D9 → R
abbrev T1 := D9 → Int → Int → R
abbrev T0 := D19 → R
def u0 (k : Nat) : T0 := fun a => runOf (S := cx) E h k Try.f36 [.val (.int .i64)] t20 m_1 a
abbrev l2 (c : Bool) (k : Nat) : T2 := fun x3 => lfR c W k [1, 1, 1] [] ⟨[(3, .v t20 m_1 x3)], [], []⟩
abbrev l1 (c : Bool) (k n1 : Nat) : T1 := fun x3 x8 x9 => lfL c W k [1, 1, 0, 1, 0] [] n1 ⟨[(3, .v t20 m_1 x3), (8, vI x8), (9, vI x9)], [], []⟩
def t2 : T2 := fun x3 => (some (x3, ()))
def p2 (k : Nat) : T2 := t2
theorem o2 (k : Nat) : l2 true k = p2 k := lfo (b := l2 false k) (fx1 fun _ => lcR) (by kernel_rfl) rfl
def t1 (f1 : T1) (f2 : T2) : T1 := fun x3 x8 x9 => (iteB (decide (x9 < x8)) (withinR x9 (List.length x3) fun q2 => (withinR x9 (List.length (List.getD x3 q2 ([] : List (Bool)))) fun q3 => (f1 (List.set x3 q2 (List.set (List.getD x3 q2 ([] : List (Bool))) q3 true)) x8 (w64 (x9 + (1 : Int)))))) (f2 x3))
def p1 (k : Nat) : Nat → T1 := iter fun f => t1 f (p2 k)
theorem o1 (k : Nat) : ∀ n, l1 true k n = p1 k n := oL (u := l1 false k) (by kernel_rfl) (fun n1 => (fx3 fun _ _ _ => lcL)) (fun n1 => by kernel_rfl) (fun n1 f h => (congr (congrArg t1 h) (o2 k)))
def t0 (f1 : T1) : T0 := fun a => (bindR (s_regex_none (a.1, ())) fun r1 => (f1 r1.1 ((List.length r1.1 : Nat) : Int) (0 : Int)))
def p0 (k : Nat) : T0 := t0 (p1 k k)
theorem o0 (k : Nat) : u0 k = p0 k := Eq.trans (by kernel_rfl) (congrArg t0 (o1 k k))
end regex_nothing
def s_regex_nothing (a : D19) : Option D34 := regex_nothing.p0 fuel a
def F_regex_nothing : FSpec cx.toNm := { ps := [.val (.int .i64)], nres := 1, rt := t20, rm := m_1, f := s_regex_nothing }
theorem ok_regex_nothing : FnOk Try.prog F_regex_nothing 36 := fn_of (F := F_regex_nothing) (hn := regex_nothing.h) (E := regex_nothing.E) cxOk (tysT _ _ _) (fs_cons ok_regex_none fs_nil) follows Try.func36 (by kernel_rfl) (fun a r h => ⟨fuel, (congrFun (regex_nothing.o0 fuel) a).trans ((by kernel_rfl : s_regex_nothing a = F_regex_nothing.f a).trans h)⟩)
namespace regex_places_put
def E : Env cx := { tys := tys, fs := fsOf [] }
abbrev R := Option (D8)
def h : Hint := { vs := [0, 1, 4, 5, 6, 7, 8], ret := ([0], []), nil := [(0, (.own .ro))], cuts := [(1, ([0, 6, 7, 8], []), ([0], [])), (4, ([0, 6, 7, 8], []), ([0, 6, 7, 8], []))] }
def R0 : RSpec cx.toNm := ⟨4, .bool, [.val t19], fun _ _ => none⟩
def W : Pr cx (D8) := ⟨E, h, bodyC Try.f40, finR R0⟩
abbrev T2 := D8 → D8 → Int → Int → R
abbrev T1 := D8 → D8 → Int → Int → R
abbrev T0 := D42 → R
def u0 (k : Nat) : T0 := fun a => runOfR (S := cx) E h k Try.f40 R0 (a.1, a.2)
abbrev l2 (c : Bool) (k n1 : Nat) : T2 := fun x0 x6 x7 x8 => lfR c W k [1, 0, 0, 1, 1, 1] [n1] ⟨[(0, .v t19 (.own .ro) x0), (6, vR t19 x6), (7, vI x7), (8, vI x8)], [], []⟩
abbrev l1 (c : Bool) (k n1 : Nat) : T1 := fun x0 x6 x7 x8 => lfL c W k [1, 0] [] n1 ⟨[(0, .v t19 (.own .ro) x0), (6, vR t19 x6), (7, vI x7), (8, vI x8)], [], []⟩
def t2 (f1 : T1) : T2 := fun x0 x6 x7 x8 => (f1 x0 x6 x7 (w64 (x8 + (1 : Int))))
def p2 (k : Nat) (a1 : T1) : T2 := t2 a1
theorem o2 (k n1 : Nat) (a1 : T1) (h1 : l1 true k n1 = a1) : l2 true k n1 = p2 k a1 := lfo (b := l2 false k n1) (fx4 fun _ _ _ _ => lcR) (by kernel_rfl) (congrArg t2 h1)
def t1 (f2 : T2) : T1 := fun x0 x6 x7 x8 => (iteB (decide (x8 < x7)) (withinR x8 (List.length x6) fun q1 => (withinR x8 (List.length x0) fun q2 => (iteB (List.getD x0 q2 false) (withinR x8 (List.length x0) fun q3 => (f2 (List.set x0 q3 true) x6 x7 x8)) (withinR x8 (List.length x0) fun q4 => (f2 (List.set x0 q4 (List.getD x6 q1 false)) x6 x7 x8))))) (some x0))
def p1 (k : Nat) : Nat → T1 := iter fun f => t1 (p2 k f)
theorem o1 (k : Nat) : ∀ n, l1 true k n = p1 k n := oL (u := l1 false k) (by kernel_rfl) (fun n1 => (fx4 fun _ _ _ _ => lcL)) (fun n1 => by kernel_rfl) (fun n1 f h => (congrArg t1 (o2 k n1 f h)))
def t0 (f1 : T1) : T0 := fun a => (f1 a.1 a.2.1 ((List.length a.2.1 : Nat) : Int) (0 : Int))
def p0 (k : Nat) : T0 := t0 (p1 k k)
theorem o0 (k : Nat) : u0 k = p0 k := Eq.trans (by kernel_rfl) (congrArg t0 (o1 k k))
end regex_places_put
def s_regex_places_put (a : D42) : Option D8 := regex_places_put.p0 fuel a
def R_regex_places_put : RSpec cx.toNm := { regex_places_put.R0 with f := fun l y => s_regex_places_put (l, y) }
def F_regex_places_put : FSpec cx.toNm := { ps := [], nres := 0, rt := .unit, rm := .ro, f := fun _ => none, r := some R_regex_places_put }
theorem ok_regex_places_put : FnOk Try.prog F_regex_places_put 40 := FnOk.ofR (fn_ofR (R := R_regex_places_put) (hn := regex_places_put.h) (E := regex_places_put.E) cxOk (tysT _ _ _) fs_nil follows Try.func40 (by kernel_rfl) (fun l y r h => ⟨fuel, Eq.trans (b := regex_places_put.u0 fuel (l, y)) (by kernel_rfl) ((congrFun (regex_places_put.o0 fuel) (l, y)).trans h)⟩))
namespace regex_spans_then
def E : Env cx := { tys := tys, fs := fsOf [(39, F_regex_none), (40, F_regex_places_put)] }
abbrev R := Option (D34)
def h : Hint := { vs := [0, 1, 4, 5, 6, 7, 8, 9, 14, 15, 16, 21, 22, 23], ret := ([4], []), nil := [(5, m_1), (4, m_1)], cuts := [(3, ([1, 5, 14, 15, 16], []), ([5], [])), (6, ([1, 5, 6, 14, 15, 16, 21, 22, 23], []), ([1, 5, 14, 15, 16], [])), (10, ([1, 5, 6, 14, 15, 16, 21, 22, 23], []), ([1, 5, 6, 14, 15, 16, 21, 22, 23], [])), (11, ([1, 5, 14, 15, 16], []), ([1, 5, 14, 15, 16], [])), (12, ([5], []), ([5], []))] }
def W : Pr cx (D34) := ⟨E, h, bodyC Try.f38, fin (S := cx) E Try.f38.results.toList t20 m_1 [] []⟩
abbrev T4 := D9 → D9 → Int → D9 → Int → Int → D8 → Int → Int → R
abbrev T5 := D9 → D9 → D9 → Int → Int → R
abbrev T2 := D9 → D9 → Int → D9 → Int → Int → D8 → Int → Int → R
abbrev T3 := D9 → R
abbrev T1 := D9 → D9 → D9 → Int → Int → R
abbrev T0 := D39 → R
def u0 (k : Nat) : T0 := fun a => runOf (S := cx) E h k Try.f38 [.val t20, .val t20] t20 m_1 a
abbrev l4 (c : Bool) (k n1 n2 : Nat) : T4 := fun x1 x5 x6 x14 x15 x16 x21 x22 x23 => lfR c W k [1, 1, 0, 1, 0, 0, 1, 1, 0, 0, 1, 1, 0, 0, 1, 1, 1] [n1, n2] ⟨[(1, vR t20 x1), (5, .v t20 m_1 x5), (6, vI x6), (14, vR t20 x14), (15, vI x15), (16, vI x16), (21, vR t19 x21), (22, vI x22), (23, vI x23)], [], []⟩
abbrev l5 (c : Bool) (k n1 : Nat) : T5 := fun x1 x5 x14 x15 x16 => lfR c W k [1, 1, 0, 1, 0, 0, 1, 1, 1] [n1] ⟨[(1, vR t20 x1), (5, .v t20 m_1 x5), (14, vR t20 x14), (15, vI x15), (16, vI x16)], [], []⟩
abbrev l2 (c : Bool) (k n1 n2 : Nat) : T2 := fun x1 x5 x6 x14 x15 x16 x21 x22 x23 => lfL c W k [1, 1, 0, 1, 0, 0, 1, 1, 0, 0, 1, 1, 0] [n1] n2 ⟨[(1, vR t20 x1), (5, .v t20 m_1 x5), (6, vI x6), (14, vR t20 x14), (15, vI x15), (16, vI x16), (21, vR t19 x21), (22, vI x22), (23, vI x23)], [], []⟩
abbrev l3 (c : Bool) (k : Nat) : T3 := fun x5 => lfR c W k [1, 1, 1] [] ⟨[(5, .v t20 m_1 x5)], [], []⟩
abbrev l1 (c : Bool) (k n1 : Nat) : T1 := fun x1 x5 x14 x15 x16 => lfL c W k [1, 1, 0, 1, 0] [] n1 ⟨[(1, vR t20 x1), (5, .v t20 m_1 x5), (14, vR t20 x14), (15, vI x15), (16, vI x16)], [], []⟩
def t4 (f2 : T2) : T4 := fun x1 x5 x6 x14 x15 x16 x21 x22 x23 => (f2 x1 x5 x6 x14 x15 x16 x21 x22 (w64 (x23 + (1 : Int))))
def p4 (k : Nat) (a1 : T1) (a2 : T2) : T4 := t4 a2
theorem o4 (k n1 n2 : Nat) (a1 : T1) (a2 : T2) (h1 : l1 true k n1 = a1) (h2 : l2 true k n1 n2 = a2) : l4 true k n1 n2 = p4 k a1 a2 := lfo (b := l4 false k n1 n2) (fx9 fun _ _ _ _ _ _ _ _ _ => lcR) (by kernel_rfl) (congrArg t4 h2)
def t5 (f1 : T1) : T5 := fun x1 x5 x14 x15 x16 => (f1 x1 x5 x14 x15 (w64 (x16 + (1 : Int))))
def p5 (k : Nat) (a1 : T1) : T5 := t5 a1
theorem o5 (k n1 : Nat) (a1 : T1) (h1 : l1 true k n1 = a1) : l5 true k n1 = p5 k a1 := lfo (b := l5 false k n1) (fx5 fun _ _ _ _ _ => lcR) (by kernel_rfl) (congrArg t5 h1)
def t2 (f4 : T4) (f5 : T5) : T2 := fun x1 x5 x6 x14 x15 x16 x21 x22 x23 => (iteB (decide (x23 < x22)) (withinR x23 (List.length x21) fun q3 => (iteB (List.getD x21 q3 false) (withinR x6 (List.length x5) fun q4 => (withinR x23 (List.length x1) fun q5 => (bindR (s_regex_places_put ((List.getD x5 q4 ([] : List (Bool))), ((List.getD x1 q5 ([] : List (Bool))), ()))) fun r6 => (f4 x1 (List.set x5 q4 r6) x6 x14 x15 x16 x21 x22 x23)))) (f4 x1 x5 x6 x14 x15 x16 x21 x22 x23))) (f5 x1 x5 x14 x15 x16))
def p2 (k : Nat) (a1 : T1) : Nat → T2 := iter fun f => t2 (p4 k a1 f) (p5 k a1)
theorem o2 (k n1 : Nat) (a1 : T1) (h1 : l1 true k n1 = a1) : ∀ n, l2 true k n1 n = p2 k a1 n := oL (u := l2 false k n1) (by kernel_rfl) (fun n2 => (fx9 fun _ _ _ _ _ _ _ _ _ => lcL)) (fun n2 => by kernel_rfl) (fun n2 f h => (congr (congrArg t2 (o4 k n1 n2 a1 f h1 h)) (o5 k n1 a1 h1)))
def t3 : T3 := fun x5 => (some (x5, ()))
def p3 (k : Nat) : T3 := t3
theorem o3 (k : Nat) : l3 true k = p3 k := lfo (b := l3 false k) (fx1 fun _ => lcR) (by kernel_rfl) rfl
def t1 (f2 : T2) (f3 : T3) : T1 := fun x1 x5 x14 x15 x16 => (iteB (decide (x16 < x15)) (withinR x16 (List.length x14) fun q2 => (f2 x1 x5 x16 x14 x15 x16 (List.getD x14 q2 ([] : List (Bool))) ((List.length (List.getD x14 q2 ([] : List (Bool))) : Nat) : Int) (0 : Int))) (f3 x5))
def p1 (k : Nat) : Nat → T1 := iter fun f => t1 (p2 k f k) (p3 k)
theorem o1 (k : Nat) : ∀ n, l1 true k n = p1 k n := oL (u := l1 false k) (by kernel_rfl) (fun n1 => (fx5 fun _ _ _ _ _ => lcL)) (fun n1 => by kernel_rfl) (fun n1 f h => (congr (congrArg t1 (o2 k n1 f h k)) (o3 k)))
def t0 (f1 : T1) : T0 := fun a => (bindR (s_regex_none ((w64 (((List.length a.1 : Nat) : Int) - (1 : Int))), ())) fun r1 => (f1 a.2.1 r1.1 a.1 ((List.length a.1 : Nat) : Int) (0 : Int)))
def p0 (k : Nat) : T0 := t0 (p1 k k)
theorem o0 (k : Nat) : u0 k = p0 k := Eq.trans (by kernel_rfl) (congrArg t0 (o1 k k))
end regex_spans_then
def s_regex_spans_then (a : D39) : Option D34 := regex_spans_then.p0 fuel a
def F_regex_spans_then : FSpec cx.toNm := { ps := [.val t20, .val t20], nres := 1, rt := t20, rm := m_1, f := s_regex_spans_then }
theorem ok_regex_spans_then : FnOk Try.prog F_regex_spans_then 38 := fn_of (F := F_regex_spans_then) (hn := regex_spans_then.h) (E := regex_spans_then.E) cxOk (tysT _ _ _) (fs_cons ok_regex_none (fs_cons ok_regex_places_put fs_nil)) follows Try.func38 (by kernel_rfl) (fun a r h => ⟨fuel, (congrFun (regex_spans_then.o0 fuel) a).trans ((by kernel_rfl : s_regex_spans_then a = F_regex_spans_then.f a).trans h)⟩)
namespace regex_spans_often
def E : Env cx := { tys := tys, fs := fsOf [(36, F_regex_nothing), (40, F_regex_places_put)] }
abbrev R := Option (D34)
def h : Hint := { vs := [0, 2, 3, 4, 5], ret := ([2], []), nil := [(3, m_1), (2, m_1)], cuts := [(3, ([0, 3, 4], []), ([3], [])), (4, ([0, 3, 4], []), ([0, 3, 4], [])), (6, ([0, 3, 4, 5], []), ([0, 3, 4], [])), (7, ([0, 3, 4, 5], []), ([0, 3, 4, 5], [])), (10, ([3], []), ([3], []))] }
def W : Pr cx (D34) := ⟨E, h, bodyC Try.f41, fin (S := cx) E Try.f41.results.toList t20 m_1 [] []⟩
abbrev T4 := D9 → D9 → Int → Int → R
abbrev T5 := D9 → D9 → Int → R
abbrev T2 := D9 → D9 → Int → Int → R
abbrev T3 := D9 → R
abbrev T1 := D9 → D9 → Int → R
abbrev T0 := D34 → R
def u0 (k : Nat) : T0 := fun a => runOf (S := cx) E h k Try.f41 [.val t20] t20 m_1 a
abbrev l4 (c : Bool) (k n1 n2 : Nat) : T4 := fun x0 x3 x4 x5 => lfR c W k [1, 1, 0, 1, 0, 0, 1, 0, 0, 1, 0, 0, 1, 1] [n1, n2] ⟨[(0, vR t20 x0), (3, .v t20 m_1 x3), (4, vI x4), (5, vI x5)], [], []⟩
abbrev l5 (c : Bool) (k n1 : Nat) : T5 := fun x0 x3 x4 => lfR c W k [1, 1, 0, 1, 0, 0, 1, 1] [n1] ⟨[(0, vR t20 x0), (3, .v t20 m_1 x3), (4, vI x4)], [], []⟩
abbrev l2 (c : Bool) (k n1 n2 : Nat) : T2 := fun x0 x3 x4 x5 => lfL c W k [1, 1, 0, 1, 0, 0, 1, 0, 0, 1, 0] [n1] n2 ⟨[(0, vR t20 x0), (3, .v t20 m_1 x3), (4, vI x4), (5, vI x5)], [], []⟩
abbrev l3 (c : Bool) (k : Nat) : T3 := fun x3 => lfR c W k [1, 1, 1] [] ⟨[(3, .v t20 m_1 x3)], [], []⟩
abbrev l1 (c : Bool) (k n1 : Nat) : T1 := fun x0 x3 x4 => lfL c W k [1, 1, 0, 1, 0] [] n1 ⟨[(0, vR t20 x0), (3, .v t20 m_1 x3), (4, vI x4)], [], []⟩
def t4 (f2 : T2) : T4 := fun x0 x3 x4 x5 => (f2 x0 x3 x4 (w64 (x5 + (1 : Int))))
def p4 (k : Nat) (a1 : T1) (a2 : T2) : T4 := t4 a2
theorem o4 (k n1 n2 : Nat) (a1 : T1) (a2 : T2) (h1 : l1 true k n1 = a1) (h2 : l2 true k n1 n2 = a2) : l4 true k n1 n2 = p4 k a1 a2 := lfo (b := l4 false k n1 n2) (fx4 fun _ _ _ _ => lcR) (by kernel_rfl) (congrArg t4 h2)
def t5 (f1 : T1) : T5 := fun x0 x3 x4 => (f1 x0 x3 (w64 (x4 - (1 : Int))))
def p5 (k : Nat) (a1 : T1) : T5 := t5 a1
theorem o5 (k n1 : Nat) (a1 : T1) (h1 : l1 true k n1 = a1) : l5 true k n1 = p5 k a1 := lfo (b := l5 false k n1) (fx3 fun _ _ _ => lcR) (by kernel_rfl) (congrArg t5 h1)
def t2 (f4 : T4) (f5 : T5) : T2 := fun x0 x3 x4 x5 => (iteB (decide (x5 < ((List.length x0 : Nat) : Int))) (withinR x4 (List.length x0) fun q2 => (withinR x5 (List.length (List.getD x0 q2 ([] : List (Bool)))) fun q3 => (iteB (List.getD (List.getD x0 q2 ([] : List (Bool))) q3 false) (withinR x4 (List.length x3) fun q4 => (withinR x5 (List.length x3) fun q5 => (mustR ((!(Nat.beq q4 q5)) || false) (bindR (s_regex_places_put ((List.getD x3 q4 ([] : List (Bool))), ((List.getD x3 q5 ([] : List (Bool))), ()))) fun r6 => (f4 x0 (List.set x3 q4 r6) x4 x5))))) (f4 x0 x3 x4 x5)))) (f5 x0 x3 x4))
def p2 (k : Nat) (a1 : T1) : Nat → T2 := iter fun f => t2 (p4 k a1 f) (p5 k a1)
theorem o2 (k n1 : Nat) (a1 : T1) (h1 : l1 true k n1 = a1) : ∀ n, l2 true k n1 n = p2 k a1 n := oL (u := l2 false k n1) (by kernel_rfl) (fun n2 => (fx4 fun _ _ _ _ => lcL)) (fun n2 => by kernel_rfl) (fun n2 f h => (congr (congrArg t2 (o4 k n1 n2 a1 f h1 h)) (o5 k n1 a1 h1)))
def t3 : T3 := fun x3 => (some (x3, ()))
def p3 (k : Nat) : T3 := t3
theorem o3 (k : Nat) : l3 true k = p3 k := lfo (b := l3 false k) (fx1 fun _ => lcR) (by kernel_rfl) rfl
def t1 (f2 : T2) (f3 : T3) : T1 := fun x0 x3 x4 => (iteB (decide ((0 : Int) ≤ x4)) (f2 x0 x3 x4 (w64 (x4 + (1 : Int)))) (f3 x3))
def p1 (k : Nat) : Nat → T1 := iter fun f => t1 (p2 k f k) (p3 k)
theorem o1 (k : Nat) : ∀ n, l1 true k n = p1 k n := oL (u := l1 false k) (by kernel_rfl) (fun n1 => (fx3 fun _ _ _ => lcL)) (fun n1 => by kernel_rfl) (fun n1 f h => (congr (congrArg t1 (o2 k n1 f h k)) (o3 k)))
def t0 (f1 : T1) : T0 := fun a => (bindR (s_regex_nothing ((w64 (((List.length a.1 : Nat) : Int) - (1 : Int))), ())) fun r1 => (f1 a.1 r1.1 (w64 (((List.length a.1 : Nat) : Int) - (1 : Int)))))
def p0 (k : Nat) : T0 := t0 (p1 k k)
theorem o0 (k : Nat) : u0 k = p0 k := Eq.trans (by kernel_rfl) (congrArg t0 (o1 k k))
end regex_spans_often
def s_regex_spans_often (a : D34) : Option D34 := regex_spans_often.p0 fuel a
def F_regex_spans_often : FSpec cx.toNm := { ps := [.val t20], nres := 1, rt := t20, rm := m_1, f := s_regex_spans_often }
theorem ok_regex_spans_often : FnOk Try.prog F_regex_spans_often 41 := fn_of (F := F_regex_spans_often) (hn := regex_spans_often.h) (E := regex_spans_often.E) cxOk (tysT _ _ _) (fs_cons ok_regex_nothing (fs_cons ok_regex_places_put fs_nil)) follows Try.func41 (by kernel_rfl) (fun a r h => ⟨fuel, (congrFun (regex_spans_often.o0 fuel) a).trans ((by kernel_rfl : s_regex_spans_often a = F_regex_spans_often.f a).trans h)⟩)
def Fr_regex_of (f : D17 → Option D34) : FSpec cx.toNm := { ps := [.val t7, .val .str], nres := 1, rt := t20, rm := .ro, f := f }
namespace regex_of
def E (sf_regex_of : D17 → Option D34) : Env cx := { tys := tys, fs := fsOf [(20, Fr_regex_of sf_regex_of), (36, F_regex_nothing), (37, F_bytesets_Has), (38, F_regex_spans_then), (39, F_regex_none), (40, F_regex_places_put), (41, F_regex_spans_often)] }
abbrev R := Option (D34)
def h : Hint := { vs := [0, 1, 2, 4, 5, 6, 8, 10, 11, 12, 17, 21, 22, 56, 57, 58, 74, 75, 76, 82, 83, 84], ret := ([4], [2, 8, 10]), trees := [(7, (.step 0 (.step 1 (.step 2 (.step 3 (.step 4 (.step 5 (.step 6 (.step 7 (.step 8 (.step 9 (.step 11 (.step 12 (.step 13 (.step 14 (.step 15 (.both (.step 10 (.step 16 (.step 17 (.step 18 (.step 19 (.step 20 .done)))))) (.step 16 (.step 17 (.both (.step 10 (.step 18 (.step 19 (.step 20 .done)))) (.step 18 (.step 10 (.step 19 (.step 20 .done))))))))))))))))))))))))], nil := [(5, m_1)], cuts := [(5, ([1, 2, 5, 21, 22], [2]), ([1, 5], [])), (9, ([1, 5], []), ([5], [])), (12, ([1, 5, 56, 57, 58], []), ([5], [])), (19, ([1, 5, 74, 75, 76], []), ([5], [])), (22, ([1, 5, 74, 75, 76, 82, 83, 84], []), ([1, 5, 74, 75, 76], [])), (26, ([1, 5, 74, 75, 76], []), ([1, 5, 74, 75, 76], [])), (29, ([5], []), ([5], []))] }
def W (sf_regex_of : D17 → Option D34) : Pr cx (D34) := ⟨(E sf_regex_of), h, bodyC Try.f20, fin (S := cx) (E sf_regex_of) Try.f20.results.toList t20 .ro [] []⟩
abbrev T4 := D9 → R
abbrev T5 := (List UInt8) → D9 → R
abbrev T1 := (List UInt8) → D9 → Int → Int → D2 → R
abbrev T2 := (List UInt8) → D9 → D0 → Int → Int → R
abbrev T7 := (List UInt8) → D9 → D0 → Int → Int → R
abbrev T6 := (List UInt8) → D9 → D0 → Int → Int → D9 → Int → Int → R
abbrev T3 := (List UInt8) → D9 → D0 → Int → Int → R
abbrev T0 := D17 → R
def u0 (sf_regex_of : D17 → Option D34) (k : Nat) : T0 := fun a => runOf (S := cx) (E sf_regex_of) h k Try.f20 [.val t7, .val .str] t20 .ro a
abbrev l4 (sf_regex_of : D17 → Option D34) (c : Bool) (k : Nat) : T4 := fun x5 => lfR c (W sf_regex_of) k [1, 1, 1] [] ⟨[(5, .v t20 m_1 x5)], [], []⟩
abbrev l5 (sf_regex_of : D17 → Option D34) (c : Bool) (k : Nat) : T5 := fun x1 x5 => lfR c (W sf_regex_of) k [1, 1, 0, 1, 0, 1, 0, 1] [] ⟨[(1, vS x1), (5, .v t20 m_1 x5)], [], []⟩
abbrev l1 (sf_regex_of : D17 → Option D34) (c : Bool) (k n1 : Nat) : T1 := fun x1 x5 x21 x22 m2 => lfL c (W sf_regex_of) k [1, 1, 0, 1, 0, 1, 0, 0, 1, 0] [] n1 ⟨[(1, vS x1), (2, vA 2), (5, .v t20 m_1 x5), (21, vI x21), (22, vI x22)], [], [(2, ⟨t7, .ro, m2⟩)]⟩
abbrev l2 (sf_regex_of : D17 → Option D34) (c : Bool) (k n2 : Nat) : T2 := fun x1 x5 x56 x57 x58 => lfL c (W sf_regex_of) k [1, 1, 0, 1, 0, 1, 1, 1, 0, 1, 0] [] n2 ⟨[(1, vS x1), (5, .v t20 m_1 x5), (56, vR t4 x56), (57, vI x57), (58, vI x58)], [], []⟩
abbrev l7 (sf_regex_of : D17 → Option D34) (c : Bool) (k n3 : Nat) : T7 := fun x1 x5 x74 x75 x76 => lfR c (W sf_regex_of) k [1, 1, 0, 1, 0, 1, 1, 1, 1, 1, 0, 1, 1, 0, 0, 1, 1, 1] [n3] ⟨[(1, vS x1), (5, .v t20 m_1 x5), (74, vR t4 x74), (75, vI x75), (76, vI x76)], [], []⟩
abbrev l6 (sf_regex_of : D17 → Option D34) (c : Bool) (k n3 n6 : Nat) : T6 := fun x1 x5 x74 x75 x76 x82 x83 x84 => lfL c (W sf_regex_of) k [1, 1, 0, 1, 0, 1, 1, 1, 1, 1, 0, 1, 1, 0, 0, 1, 1, 0, 0, 1, 1, 0] [n3] n6 ⟨[(1, vS x1), (5, .v t20 m_1 x5), (74, vR t4 x74), (75, vI x75), (76, vI x76), (82, vR t20 x82), (83, vI x83), (84, vI x84)], [], []⟩
abbrev l3 (sf_regex_of : D17 → Option D34) (c : Bool) (k n3 : Nat) : T3 := fun x1 x5 x74 x75 x76 => lfL c (W sf_regex_of) k [1, 1, 0, 1, 0, 1, 1, 1, 1, 1, 0, 1, 1, 0] [] n3 ⟨[(1, vS x1), (5, .v t20 m_1 x5), (74, vR t4 x74), (75, vI x75), (76, vI x76)], [], []⟩
def t4 (sf_regex_of : D17 → Option D34) : T4 := fun x5 => (some (x5, ()))
def p4 (sf_regex_of : D17 → Option D34) (k : Nat) : T4 := t4 sf_regex_of
theorem o4 (sf_regex_of : D17 → Option D34) (k : Nat) : l4 sf_regex_of true k = p4 sf_regex_of k := lfo (b := l4 sf_regex_of false k) (fx1 fun _ => lcR) (by kernel_rfl) rfl
def t5 (sf_regex_of : D17 → Option D34) (f4 : T4) : T5 := fun x1 x5 => (withinR ((List.length x1 : Nat) : Int) (List.length x5) fun q16 => (withinR ((List.length x1 : Nat) : Int) (List.length (List.getD x5 q16 ([] : List (Bool)))) fun q17 => (f4 (List.set x5 q16 (List.set (List.getD x5 q16 ([] : List (Bool))) q17 false)))))
def p5 (sf_regex_of : D17 → Option D34) (k : Nat) : T5 := t5 sf_regex_of (p4 sf_regex_of k)
theorem o5 (sf_regex_of : D17 → Option D34) (k : Nat) : l5 sf_regex_of true k = p5 sf_regex_of k := lfo (b := l5 sf_regex_of false k) (fx2 fun _ _ => lcR) (by kernel_rfl) (congrArg (t5 sf_regex_of) (o4 sf_regex_of k))
def t1 (sf_regex_of : D17 → Option D34) (f1 : T1) (f5 : T5) : T1 := fun x1 x5 x21 x22 m2 => (iteB (decide (x22 < x21)) (withinR x22 (List.length x5) fun q6 => (withinR x22 (List.length x5) fun q7 => (withinR x22 (List.length x1) fun q8 => (meetK (bindR (s_bytesets_Has (m2.2.1, ((byteAt x1 q8), ()))) fun r9 => (withinR x22 (List.length (List.getD x5 q6 ([] : List (Bool)))) fun q10 => (withinR (w64 (x22 + (1 : Int))) (List.length (List.getD (List.set x5 q6 (List.set (List.getD x5 q6 ([] : List (Bool))) q10 false)) q7 ([] : List (Bool)))) fun q11 => (f1 x1 (List.set (List.set x5 q6 (List.set (List.getD x5 q6 ([] : List (Bool))) q10 false)) q7 (List.set (List.getD (List.set x5 q6 (List.set (List.getD x5 q6 ([] : List (Bool))) q10 false)) q7 ([] : List (Bool))) q11 r9.1)) x21 (w64 (x22 + (1 : Int))) m2)))) (bindR (s_bytesets_Has (m2.2.1, ((byteAt x1 q8), ()))) fun r12 => (withinR x22 (List.length (List.getD x5 q6 ([] : List (Bool)))) fun q13 => (meetK (withinR (w64 (x22 + (1 : Int))) (List.length (List.getD (List.set x5 q6 (List.set (List.getD x5 q6 ([] : List (Bool))) q13 false)) q7 ([] : List (Bool)))) fun q14 => (f1 x1 (List.set (List.set x5 q6 (List.set (List.getD x5 q6 ([] : List (Bool))) q13 false)) q7 (List.set (List.getD (List.set x5 q6 (List.set (List.getD x5 q6 ([] : List (Bool))) q13 false)) q7 ([] : List (Bool))) q14 r12.1)) x21 (w64 (x22 + (1 : Int))) m2)) (withinR (w64 (x22 + (1 : Int))) (List.length (List.getD (List.set x5 q6 (List.set (List.getD x5 q6 ([] : List (Bool))) q13 false)) q7 ([] : List (Bool)))) fun q15 => (f1 x1 (List.set (List.set x5 q6 (List.set (List.getD x5 q6 ([] : List (Bool))) q13 false)) q7 (List.set (List.getD (List.set x5 q6 (List.set (List.getD x5 q6 ([] : List (Bool))) q13 false)) q7 ([] : List (Bool))) q15 r12.1)) x21 (w64 (x22 + (1 : Int))) m2))))))))) (f5 x1 x5))
def p1 (sf_regex_of : D17 → Option D34) (k : Nat) : Nat → T1 := iter fun f => t1 sf_regex_of f (p5 sf_regex_of k)
theorem o1 (sf_regex_of : D17 → Option D34) (k : Nat) : ∀ n, l1 sf_regex_of true k n = p1 sf_regex_of k n := oL (u := l1 sf_regex_of false k) (by kernel_rfl) (fun n1 => (fx5 fun _ _ _ _ _ => lcL)) (fun n1 => by kernel_rfl) (fun n1 f h => (congr (congrArg (t1 sf_regex_of) h) (o5 sf_regex_of k)))
def t2 (sf_regex_of : D17 → Option D34) (f2 : T2) (f4 : T4) : T2 := fun x1 x5 x56 x57 x58 => (iteB (decide (x58 < x57)) (withinR x58 (List.length x56) fun q18 => (bindR (sf_regex_of ((out0 (List.getD x56 q18 (pk0 ((0 : Int), ((List.replicate 4 (0 : Int)), ([] : List (N0))))))), (x1, ()))) fun r19 => (bindR (s_regex_spans_then (x5, (r19.1, ()))) fun r20 => (f2 x1 r20.1 x56 x57 (w64 (x58 + (1 : Int))))))) (f4 x5))
def p2 (sf_regex_of : D17 → Option D34) (k : Nat) : Nat → T2 := iter fun f => t2 sf_regex_of f (p4 sf_regex_of k)
theorem o2 (sf_regex_of : D17 → Option D34) (k : Nat) : ∀ n, l2 sf_regex_of true k n = p2 sf_regex_of k n := oL (u := l2 sf_regex_of false k) (by kernel_rfl) (fun n2 => (fx5 fun _ _ _ _ _ => lcL)) (fun n2 => by kernel_rfl) (fun n2 f h => (congr (congrArg (t2 sf_regex_of) h) (o4 sf_regex_of k)))
def t7 (sf_regex_of : D17 → Option D34) (f3 : T3) : T7 := fun x1 x5 x74 x75 x76 => (f3 x1 x5 x74 x75 (w64 (x76 + (1 : Int))))
def p7 (sf_regex_of : D17 → Option D34) (k : Nat) (a3 : T3) : T7 := t7 sf_regex_of a3
theorem o7 (sf_regex_of : D17 → Option D34) (k n3 : Nat) (a3 : T3) (h3 : l3 sf_regex_of true k n3 = a3) : l7 sf_regex_of true k n3 = p7 sf_regex_of k a3 := lfo (b := l7 sf_regex_of false k n3) (fx5 fun _ _ _ _ _ => lcR) (by kernel_rfl) (congrArg (t7 sf_regex_of) h3)
def t6 (sf_regex_of : D17 → Option D34) (f6 : T6) (f7 : T7) : T6 := fun x1 x5 x74 x75 x76 x82 x83 x84 => (iteB (decide (x84 < x83)) (withinR x84 (List.length x82) fun q23 => (withinR x84 (List.length x5) fun q24 => (bindR (s_regex_places_put ((List.getD x5 q24 ([] : List (Bool))), ((List.getD x82 q23 ([] : List (Bool))), ()))) fun r25 => (f6 x1 (List.set x5 q24 r25) x74 x75 x76 x82 x83 (w64 (x84 + (1 : Int))))))) (f7 x1 x5 x74 x75 x76))
def p6 (sf_regex_of : D17 → Option D34) (k : Nat) (a3 : T3) : Nat → T6 := iter fun f => t6 sf_regex_of f (p7 sf_regex_of k a3)
theorem o6 (sf_regex_of : D17 → Option D34) (k n3 : Nat) (a3 : T3) (h3 : l3 sf_regex_of true k n3 = a3) : ∀ n, l6 sf_regex_of true k n3 n = p6 sf_regex_of k a3 n := oL (u := l6 sf_regex_of false k n3) (by kernel_rfl) (fun n6 => (fx8 fun _ _ _ _ _ _ _ _ => lcL)) (fun n6 => by kernel_rfl) (fun n6 f h => (congr (congrArg (t6 sf_regex_of) h) (o7 sf_regex_of k n3 a3 h3)))
def t3 (sf_regex_of : D17 → Option D34) (f6 : T6) (f4 : T4) : T3 := fun x1 x5 x74 x75 x76 => (iteB (decide (x76 < x75)) (withinR x76 (List.length x74) fun q21 => (bindR (sf_regex_of ((out0 (List.getD x74 q21 (pk0 ((0 : Int), ((List.replicate 4 (0 : Int)), ([] : List (N0))))))), (x1, ()))) fun r22 => (f6 x1 x5 x74 x75 x76 r22.1 ((List.length r22.1 : Nat) : Int) (0 : Int)))) (f4 x5))
def p3 (sf_regex_of : D17 → Option D34) (k : Nat) : Nat → T3 := iter fun f => t3 sf_regex_of (p6 sf_regex_of k f k) (p4 sf_regex_of k)
theorem o3 (sf_regex_of : D17 → Option D34) (k : Nat) : ∀ n, l3 sf_regex_of true k n = p3 sf_regex_of k n := oL (u := l3 sf_regex_of false k) (by kernel_rfl) (fun n3 => (fx5 fun _ _ _ _ _ => lcL)) (fun n3 => by kernel_rfl) (fun n3 f h => (congr (congrArg (t3 sf_regex_of) (o6 sf_regex_of k n3 f h k)) (o4 sf_regex_of k)))
def t0 (sf_regex_of : D17 → Option D34) (f1 : T1) (f2 : T2) (f3 : T3) (f4 : T4) : T0 := fun a => (bindR (s_regex_nothing (((List.length a.2.1 : Nat) : Int), ())) fun r1 => (iteB (decide (a.1.1 = (1 : Int))) (f1 a.2.1 r1.1 ((List.length a.2.1 : Nat) : Int) (0 : Int) a.1) (iteB (decide (a.1.1 = (2 : Int))) (f2 a.2.1 r1.1 a.1.2.2 ((List.length a.1.2.2 : Nat) : Int) (0 : Int)) (iteB (decide (a.1.1 = (3 : Int))) (bindR (s_regex_none (((List.length a.2.1 : Nat) : Int), ())) fun r2 => (f3 a.2.1 r2.1 a.1.2.2 ((List.length a.1.2.2 : Nat) : Int) (0 : Int))) (iteB (decide (a.1.1 = (4 : Int))) (withinR (0 : Int) (List.length a.1.2.2) fun q3 => (bindR (sf_regex_of ((out0 (List.getD a.1.2.2 q3 (pk0 ((0 : Int), ((List.replicate 4 (0 : Int)), ([] : List (N0))))))), (a.2.1, ()))) fun r4 => (bindR (s_regex_spans_often (r4.1, ())) fun r5 => (f4 r5.1)))) (f4 r1.1))))))
def p0 (sf_regex_of : D17 → Option D34) (k : Nat) : T0 := t0 sf_regex_of (p1 sf_regex_of k k) (p2 sf_regex_of k k) (p3 sf_regex_of k k) (p4 sf_regex_of k)
theorem o0 (sf_regex_of : D17 → Option D34) (k : Nat) : u0 sf_regex_of k = p0 sf_regex_of k := Eq.trans (by kernel_rfl) (by have h := (congr (congr (congr (congrArg (t0 sf_regex_of) (o1 sf_regex_of k k)) (o2 sf_regex_of k k)) (o3 sf_regex_of k k)) (o4 sf_regex_of k)); exact h)
end regex_of
def r_regex_of : Nat → D17 → Option D34
  | 0, _ => none
  | n + 1, a => regex_of.p0 (r_regex_of n) fuel a
theorem okr_regex_of : ∀ n, FnOk Try.prog (Fr_regex_of (r_regex_of n)) 20
  | 0 => fn_none (fun _ => rfl)
  | n + 1 => fn_of (F := Fr_regex_of (r_regex_of (n + 1))) (hn := regex_of.h) (E := regex_of.E (r_regex_of n)) cxOk (tysT _ _ _) (fs_cons (okr_regex_of n) (fs_cons ok_regex_nothing (fs_cons ok_bytesets_Has (fs_cons ok_regex_spans_then (fs_cons ok_regex_none (fs_cons ok_regex_places_put (fs_cons ok_regex_spans_often fs_nil))))))) follows Try.func20 (by kernel_rfl) (fun a r h => ⟨fuel, Eq.trans (congrFun (regex_of.o0 (r_regex_of n) fuel) a) h⟩)
def s_regex_of (a : D17) : Option D34 := r_regex_of fuel a
def F_regex_of : FSpec cx.toNm := Fr_regex_of s_regex_of
theorem ok_regex_of : FnOk Try.prog F_regex_of 20 := (okr_regex_of fuel)
namespace regex_Matches
def E : Env cx := { tys := tys, fs := fsOf [(11, F_regex_Right), (20, F_regex_of)] }
abbrev R := Option (D14)
def h : Hint := { vs := [0, 1, 2, 4], ret := ([4], [2]) }
def W : Pr cx (D14) := ⟨E, h, bodyC Try.f9, fin (S := cx) E Try.f9.results.toList .bool .ro [] []⟩
abbrev T0 := D17 → R
def u0 (k : Nat) : T0 := fun a => runOf (S := cx) E h k Try.f9 [.val t7, .val .str] .bool .ro a
def t0 : T0 := fun a => (bindR (s_regex_Right (a.1, ())) fun r1 => (iteB r1.1 (bindR (s_regex_of (a.1, (a.2.1, ()))) fun r2 => (withinR (0 : Int) (List.length r2.1) fun q3 => (withinR ((List.length a.2.1 : Nat) : Int) (List.length (List.getD r2.1 q3 ([] : List (Bool)))) fun q4 => (some ((List.getD (List.getD r2.1 q3 ([] : List (Bool))) q4 false), ()))))) (some (false, ()))))
def p0 (k : Nat) : T0 := t0
theorem o0 (k : Nat) : u0 k = p0 k := Eq.trans (by kernel_rfl) rfl
end regex_Matches
def s_regex_Matches (a : D17) : Option D14 := regex_Matches.p0 fuel a
def F_regex_Matches : FSpec cx.toNm := { ps := [.val t7, .val .str], nres := 1, rt := .bool, rm := .ro, f := s_regex_Matches }
theorem ok_regex_Matches : FnOk Try.prog F_regex_Matches 9 := fn_of (F := F_regex_Matches) (hn := regex_Matches.h) (E := regex_Matches.E) cxOk (tysT _ _ _) (fs_cons ok_regex_Right (fs_cons ok_regex_of fs_nil)) follows Try.func9 (by kernel_rfl) (fun a r h => ⟨fuel, (congrFun (regex_Matches.o0 fuel) a).trans ((by kernel_rfl : s_regex_Matches a = F_regex_Matches.f a).trans h)⟩)
namespace ref01_Sign
def E : Env cx := { tys := tys, fs := fsOf [] }
abbrev R := Option (D14)
def h : Hint := { vs := [0, 2], ret := ([2], []) }
def W : Pr cx (D14) := ⟨E, h, bodyC Try.f29, fin (S := cx) E Try.f29.results.toList .bool .ro [] []⟩
abbrev T0 := D19 → R
def u0 (k : Nat) : T0 := fun a => runOf (S := cx) E h k Try.f29 [.val (.int .i64)] .bool .ro a
def t0 : T0 := fun a => (iteB (decide ((0 : Int) ≤ a.1)) (iteB (decide (a.1 < (1114112 : Int))) (iteB (decide ((55296 : Int) ≤ a.1)) (some ((notB (decide (a.1 ≤ (57343 : Int)))), ())) (some (true, ()))) (some (false, ()))) (some (false, ())))
def p0 (k : Nat) : T0 := t0
theorem o0 (k : Nat) : u0 k = p0 k := Eq.trans (by kernel_rfl) rfl
end ref01_Sign
def s_ref01_Sign (a : D19) : Option D14 := ref01_Sign.p0 fuel a
def F_ref01_Sign : FSpec cx.toNm := { ps := [.val (.int .i64)], nres := 1, rt := .bool, rm := .ro, f := s_ref01_Sign }
theorem ok_ref01_Sign : FnOk Try.prog F_ref01_Sign 29 := fn_of (F := F_ref01_Sign) (hn := ref01_Sign.h) (E := ref01_Sign.E) cxOk (tysT _ _ _) fs_nil follows Try.func29 (by kernel_rfl) (fun a r h => ⟨fuel, (congrFun (ref01_Sign.o0 fuel) a).trans ((by kernel_rfl : s_ref01_Sign a = F_ref01_Sign.f a).trans h)⟩)
namespace ref01_Bytes
def E : Env cx := { tys := tys, fs := fsOf [(29, F_ref01_Sign)] }
abbrev R := Option (D15)
def h : Hint := { vs := [0, 2], ret := ([2], []) }
def W : Pr cx (D15) := ⟨E, h, bodyC Try.f30, fin (S := cx) E Try.f30.results.toList .str .ro [] []⟩
abbrev T0 := D19 → R
def u0 (k : Nat) : T0 := fun a => runOf (S := cx) E h k Try.f30 [.val (.int .i64)] .str .ro a
def t0 : T0 := fun a => (bindR (s_ref01_Sign (a.1, ())) fun r1 => (iteB (notB r1.1) (some (([] : List UInt8), ())) (iteB (decide (a.1 < (128 : Int))) (some ((bytesOf ([(w8 (a.1))] : List (Int))), ())) (iteB (decide (a.1 < (2048 : Int))) (some ((bytesOf ([(w8 ((w64 ((192 : Int) + (w64 (Int.tdiv a.1 (64 : Int))))))), (w8 ((w64 ((128 : Int) + (Int.tmod a.1 (64 : Int))))))] : List (Int))), ())) (iteB (decide (a.1 < (65536 : Int))) (some ((bytesOf ([(w8 ((w64 ((224 : Int) + (w64 (Int.tdiv a.1 (4096 : Int))))))), (w8 ((w64 ((128 : Int) + (Int.tmod (w64 (Int.tdiv a.1 (64 : Int))) (64 : Int)))))), (w8 ((w64 ((128 : Int) + (Int.tmod a.1 (64 : Int))))))] : List (Int))), ())) (some ((bytesOf ([(w8 ((w64 ((240 : Int) + (w64 (Int.tdiv a.1 (262144 : Int))))))), (w8 ((w64 ((128 : Int) + (Int.tmod (w64 (Int.tdiv a.1 (4096 : Int))) (64 : Int)))))), (w8 ((w64 ((128 : Int) + (Int.tmod (w64 (Int.tdiv a.1 (64 : Int))) (64 : Int)))))), (w8 ((w64 ((128 : Int) + (Int.tmod a.1 (64 : Int))))))] : List (Int))), ())))))))
def p0 (k : Nat) : T0 := t0
theorem o0 (k : Nat) : u0 k = p0 k := Eq.trans (by kernel_rfl) rfl
end ref01_Bytes
def s_ref01_Bytes (a : D19) : Option D15 := ref01_Bytes.p0 fuel a
def F_ref01_Bytes : FSpec cx.toNm := { ps := [.val (.int .i64)], nres := 1, rt := .str, rm := .ro, f := s_ref01_Bytes }
theorem ok_ref01_Bytes : FnOk Try.prog F_ref01_Bytes 30 := fn_of (F := F_ref01_Bytes) (hn := ref01_Bytes.h) (E := ref01_Bytes.E) cxOk (tysT _ _ _) (fs_cons ok_ref01_Sign fs_nil) follows Try.func30 (by kernel_rfl) (fun a r h => ⟨fuel, (congrFun (ref01_Bytes.o0 fuel) a).trans ((by kernel_rfl : s_ref01_Bytes a = F_ref01_Bytes.f a).trans h)⟩)
namespace ref01_First
def E : Env cx := { tys := tys, fs := fsOf [(29, F_ref01_Sign), (30, F_ref01_Bytes)] }
abbrev R := Option (D31)
def h : Hint := { vs := [0, 2, 3, 4, 5, 6, 7, 8, 9], ret := ([2, 3], []), ords := [(18, [0, 1, 2, 3, 4, 5, 6, 7, 9, 10, 11, 8, 12, 13])], cuts := [(2, ([0, 4], []), ([], [])), (3, ([0, 4], []), ([0, 4], [])), (4, ([0, 4], []), ([0, 4], [])), (6, ([0, 4, 5, 6], []), ([0, 4], [])), (9, ([0, 4], []), ([0, 4], [])), (15, ([0, 4, 5, 8, 9], []), ([0, 4, 5, 8], [])), (18, ([0, 4, 5, 8], []), ([0, 4], [])), (19, ([0, 4, 5, 74], []), ([0, 4], [])), (20, ([], []), ([], [])), (1000000, ([0, 4, 17], []), ([0, 4], []))] }
def W : Pr cx (D31) := ⟨E, h, bodyC Try.f18, fin (S := cx) E Try.f18.results.toList t16 .ro [] []⟩
abbrev T10 := (List UInt8) → Int → R
abbrev T9 := (List UInt8) → Int → Int → Bool → R
abbrev T7 := (List UInt8) → Int → Int → Int → R
abbrev T8 := (List UInt8) → Int → Int → Int → Int → R
abbrev T6 := (List UInt8) → Int → R
abbrev T5 := (List UInt8) → Int → Int → Int → R
abbrev T3 := (List UInt8) → Int → R
abbrev T4 := R
abbrev T2 := (List UInt8) → Int → Bool → R
abbrev T1 := (List UInt8) → Int → R
abbrev T0 := D15 → R
def u0 (k : Nat) : T0 := fun a => runOf (S := cx) E h k Try.f18 [.val .str] t16 .ro a
abbrev l10 (c : Bool) (k n1 : Nat) : T10 := fun x0 x4 => lfR c W k [1, 0, 1, 0, 0, 1, 1] [n1] ⟨[(0, vS x0), (4, vI x4)], [], []⟩
abbrev l9 (c : Bool) (k n1 : Nat) : T9 := fun x0 x4 x5 x74 => lfR c W k [1, 0, 1, 0, 0, 1, 0, 0, 1, 1, 1, 1, 1, 1] [n1] ⟨[(0, vS x0), (4, vI x4), (5, vI x5), (74, vB x74)], [], []⟩
abbrev l7 (c : Bool) (k n1 : Nat) : T7 := fun x0 x4 x5 x8 => lfR c W k [1, 0, 1, 0, 0, 1, 0, 0, 1, 1, 1, 1, 1] [n1] ⟨[(0, vS x0), (4, vI x4), (5, vI x5), (8, vI x8)], [], []⟩
abbrev l8 (c : Bool) (k n1 n8 : Nat) : T8 := fun x0 x4 x5 x8 x9 => lfL c W k [1, 0, 1, 0, 0, 1, 0, 0, 1, 1, 1, 1, 0, 1, 1, 1, 1, 0] [n1] n8 ⟨[(0, vS x0), (4, vI x4), (5, vI x5), (8, vI x8), (9, vI x9)], [], []⟩
abbrev l6 (c : Bool) (k n1 : Nat) : T6 := fun x0 x4 => lfR c W k [1, 0, 1, 0, 0, 1, 0, 0, 1, 1] [n1] ⟨[(0, vS x0), (4, vI x4)], [], []⟩
abbrev l5 (c : Bool) (k n1 n5 : Nat) : T5 := fun x0 x4 x5 x6 => lfL c W k [1, 0, 1, 0, 0, 1, 0, 0, 1, 0, 1, 0] [n1] n5 ⟨[(0, vS x0), (4, vI x4), (5, vI x5), (6, vI x6)], [], []⟩
abbrev l3 (c : Bool) (k n1 : Nat) : T3 := fun x0 x4 => lfR c W k [1, 0, 1, 0, 0, 1] [n1] ⟨[(0, vS x0), (4, vI x4)], [], []⟩
abbrev l4 (c : Bool) (k : Nat) : T4 := lfR c W k [1, 1] [] ⟨[], [], []⟩
abbrev l2 (c : Bool) (k n1 : Nat) : T2 := fun x0 x4 x17 => lfR c W k [1, 0, 1, 0, 0, 0, 1] [n1] ⟨[(0, vS x0), (4, vI x4), (17, vB x17)], [], []⟩
abbrev l1 (c : Bool) (k n1 : Nat) : T1 := fun x0 x4 => lfL c W k [1, 0, 1, 0] [] n1 ⟨[(0, vS x0), (4, vI x4)], [], []⟩
def t10 (f1 : T1) : T10 := fun x0 x4 => (f1 x0 (w64 (x4 + (1 : Int))))
def p10 (k : Nat) (a1 : T1) : T10 := t10 a1
theorem o10 (k n1 : Nat) (a1 : T1) (h1 : l1 true k n1 = a1) : l10 true k n1 = p10 k a1 := lfo (b := l10 false k n1) (fx2 fun _ _ => lcR) (by kernel_rfl) (congrArg t10 h1)
def t9 (f10 : T10) : T9 := fun x0 x4 x5 x74 => (iteB x74 (some ((x5, x4), ())) (f10 x0 x4))
def p9 (k : Nat) (a1 : T1) : T9 := t9 (p10 k a1)
theorem o9 (k n1 : Nat) (a1 : T1) (h1 : l1 true k n1 = a1) : l9 true k n1 = p9 k a1 := lfo (b := l9 false k n1) (fx4 fun _ _ _ _ => lcR) (by kernel_rfl) (congrArg t9 (o10 k n1 a1 h1))
def t7 (f9 : T9) : T7 := fun x0 x4 x5 x8 => (iteB (decide ((0 : Int) ≤ x8)) (bindR (s_ref01_Sign (x5, ())) fun r5 => (iteB r5.1 (mustR (decide (0 ≤ x4)) (mustR (decide (x4 ≤ (((List.length x0) : Nat) : Int))) (bindR (s_ref01_Bytes (x5, ())) fun r6 => (f9 x0 x4 x5 (decide (r6.1 = (List.drop 0 (List.take (Int.toNat x4) x0)))))))) (f9 x0 x4 x5 false))) (f9 x0 x4 x5 false))
def p7 (k : Nat) (a1 : T1) : T7 := t7 (p9 k a1)
theorem o7 (k n1 : Nat) (a1 : T1) (h1 : l1 true k n1 = a1) : l7 true k n1 = p7 k a1 := lfo (b := l7 false k n1) (fx4 fun _ _ _ _ => lcR) (by kernel_rfl) (congrArg t7 (o9 k n1 a1 h1))
def t8 (f8 : T8) (f7 : T7) : T8 := fun x0 x4 x5 x8 x9 => (iteB (decide (x9 < x4)) (withinR x9 (List.length x0) fun q7 => (f8 x0 x4 (w64 ((w64 ((64 : Int) * x5)) + (w64 ((Int.tmod (byteAt x0 q7) (64 : Int)))))) x8 (w64 (x9 + (1 : Int))))) (f7 x0 x4 x5 x8))
def p8 (k : Nat) (a1 : T1) : Nat → T8 := iter fun f => t8 f (p7 k a1)
theorem o8 (k n1 : Nat) (a1 : T1) (h1 : l1 true k n1 = a1) : ∀ n, l8 true k n1 n = p8 k a1 n := oL (u := l8 false k n1) (by kernel_rfl) (fun n8 => (fx5 fun _ _ _ _ _ => lcL)) (fun n8 => by kernel_rfl) (fun n8 f h => (congr (congrArg t8 h) (o7 k n1 a1 h1)))
def t6 (f7 : T7) (f8 : T8) : T6 := fun x0 x4 => (withinR x4 (List.length ([(0 : Int), (0 : Int), (192 : Int), (224 : Int), (240 : Int)] : List (Int))) fun q2 => (withinR (0 : Int) (List.length x0) fun q3 => (iteB (decide (x4 = (1 : Int))) (withinR (0 : Int) (List.length x0) fun q4 => (f7 x0 x4 (w64 ((byteAt x0 q4))) (w64 ((w64 ((byteAt x0 q3))) - (List.getD ([(0 : Int), (0 : Int), (192 : Int), (224 : Int), (240 : Int)] : List (Int)) q2 (0 : Int)))))) (f8 x0 x4 (w64 ((w64 ((byteAt x0 q3))) - (List.getD ([(0 : Int), (0 : Int), (192 : Int), (224 : Int), (240 : Int)] : List (Int)) q2 (0 : Int)))) (w64 ((w64 ((byteAt x0 q3))) - (List.getD ([(0 : Int), (0 : Int), (192 : Int), (224 : Int), (240 : Int)] : List (Int)) q2 (0 : Int)))) (1 : Int)))))
def p6 (k : Nat) (a1 : T1) : T6 := t6 (p7 k a1) (p8 k a1 k)
theorem o6 (k n1 : Nat) (a1 : T1) (h1 : l1 true k n1 = a1) : l6 true k n1 = p6 k a1 := lfo (b := l6 false k n1) (fx2 fun _ _ => lcR) (by kernel_rfl) (by have h := (congr (congrArg t6 (o7 k n1 a1 h1)) (o8 k n1 a1 h1 k)); exact h)
def t5 (f5 : T5) (f6 : T6) : T5 := fun x0 x4 x5 x6 => (iteB (decide (x6 < x4)) (withinR x6 (List.length x0) fun q1 => (f5 x0 x4 (w64 ((w64 ((64 : Int) * x5)) + (w64 ((Int.tmod (byteAt x0 q1) (64 : Int)))))) (w64 (x6 + (1 : Int))))) (f6 x0 x4))
def p5 (k : Nat) (a1 : T1) : Nat → T5 := iter fun f => t5 f (p6 k a1)
theorem o5 (k n1 : Nat) (a1 : T1) (h1 : l1 true k n1 = a1) : ∀ n, l5 true k n1 n = p5 k a1 n := oL (u := l5 false k n1) (by kernel_rfl) (fun n5 => (fx4 fun _ _ _ _ => lcL)) (fun n5 => by kernel_rfl) (fun n5 f h => (congr (congrArg t5 h) (o6 k n1 a1 h1)))
def t3 (f5 : T5) : T3 := fun x0 x4 => (f5 x0 x4 (0 : Int) (0 : Int))
def p3 (k : Nat) (a1 : T1) : T3 := t3 (p5 k a1 k)
theorem o3 (k n1 : Nat) (a1 : T1) (h1 : l1 true k n1 = a1) : l3 true k n1 = p3 k a1 := lfo (b := l3 false k n1) (fx2 fun _ _ => lcR) (by kernel_rfl) (congrArg t3 (o5 k n1 a1 h1 k))
def t4 : T4 := (some (((-1 : Int), (0 : Int)), ()))
def p4 (k : Nat) : T4 := t4
theorem o4 (k : Nat) : l4 true k = p4 k := lfo (b := l4 false k) lcR (by kernel_rfl) rfl
def t2 (f3 : T3) (f4 : T4) : T2 := fun x0 x4 x17 => (iteB x17 (f3 x0 x4) f4)
def p2 (k : Nat) (a1 : T1) : T2 := t2 (p3 k a1) (p4 k)
theorem o2 (k n1 : Nat) (a1 : T1) (h1 : l1 true k n1 = a1) : l2 true k n1 = p2 k a1 := lfo (b := l2 false k n1) (fx3 fun _ _ _ => lcR) (by kernel_rfl) (by have h := (congr (congrArg t2 (o3 k n1 a1 h1)) (o4 k)); exact h)
def t1 (f2 : T2) : T1 := fun x0 x4 => (iteB (decide (x4 ≤ (4 : Int))) (f2 x0 x4 (decide (x4 ≤ ((List.length x0 : Nat) : Int)))) (f2 x0 x4 false))
def p1 (k : Nat) : Nat → T1 := iter fun f => t1 (p2 k f)
theorem o1 (k : Nat) : ∀ n, l1 true k n = p1 k n := oL (u := l1 false k) (by kernel_rfl) (fun n1 => (fx2 fun _ _ => lcL)) (fun n1 => by kernel_rfl) (fun n1 f h => (congrArg t1 (o2 k n1 f h)))
def t0 (f1 : T1) : T0 := fun a => (f1 a.1 (1 : Int))
def p0 (k : Nat) : T0 := t0 (p1 k k)
theorem o0 (k : Nat) : u0 k = p0 k := Eq.trans (by kernel_rfl) (congrArg t0 (o1 k k))
end ref01_First
def s_ref01_First (a : D15) : Option D31 := ref01_First.p0 fuel a
def F_ref01_First : FSpec cx.toNm := { ps := [.val .str], nres := 2, rt := t16, rm := .ro, f := s_ref01_First }
theorem ok_ref01_First : FnOk Try.prog F_ref01_First 18 := fn_of (F := F_ref01_First) (hn := ref01_First.h) (E := ref01_First.E) cxOk (tysT _ _ _) (fs_cons ok_ref01_Sign (fs_cons ok_ref01_Bytes fs_nil)) follows Try.func18 (by kernel_rfl) (fun a r h => ⟨fuel, (congrFun (ref01_First.o0 fuel) a).trans ((by kernel_rfl : s_ref01_First a = F_ref01_First.f a).trans h)⟩)
namespace ref06_reader_capped
def E : Env cx := { tys := tys, fs := fsOf [(8, F_ref06_Count)] }
abbrev R := Option (D33)
def h : Hint := { vs := [0, 1, 3, 4], ret := ([0, 4], [3, 4, 1000000]) }
def W : Pr cx (D33) := ⟨E, h, bodyC Try.f34, fin (S := cx) E Try.f34.results.toList t7 .ro [1000000] [(t14, m_0)]⟩
abbrev T0 := D37 → R
def u0 (k : Nat) : T0 := fun a => runOf (S := cx) E h k Try.f34 [.io t14 m_0, .val t7] t7 .ro a
def t0 : T0 := fun a => (bindR (s_ref06_Count (a.2.1, ((1 : Int), ()))) fun r1 => (iteB (decide (r1.1 < (0 : Int))) (some (((0 : Int), ((List.replicate 4 (0 : Int)), ([] : List (N0)))), ((a.1.1, (a.1.2.1, (a.1.2.2.1, true))), ()))) (some (a.2.1, (a.1, ())))))
def p0 (k : Nat) : T0 := t0
theorem o0 (k : Nat) : u0 k = p0 k := Eq.trans (by kernel_rfl) rfl
end ref06_reader_capped
def s_ref06_reader_capped (a : D37) : Option D33 := ref06_reader_capped.p0 fuel a
def F_ref06_reader_capped : FSpec cx.toNm := { ps := [.io t14 m_0, .val t7], nres := 1, rt := t7, rm := .ro, f := s_ref06_reader_capped }
theorem ok_ref06_reader_capped : FnOk Try.prog F_ref06_reader_capped 34 := fn_of (F := F_ref06_reader_capped) (hn := ref06_reader_capped.h) (E := ref06_reader_capped.E) cxOk (tysT _ _ _) (fs_cons ok_ref06_Count fs_nil) follows Try.func34 (by kernel_rfl) (fun a r h => ⟨fuel, (congrFun (ref06_reader_capped.o0 fuel) a).trans ((by kernel_rfl : s_ref06_reader_capped a = F_ref06_reader_capped.f a).trans h)⟩)
namespace ref06_several
def E : Env cx := { tys := tys, fs := fsOf [] }
abbrev R := Option (D21)
def h : Hint := { vs := [0, 1, 4], ret := ([4], [4]) }
def W : Pr cx (D21) := ⟨E, h, bodyC Try.f35, fin (S := cx) E Try.f35.results.toList t7 .ro [] []⟩
abbrev T0 := D23 → R
def u0 (k : Nat) : T0 := fun a => runOf (S := cx) E h k Try.f35 [.val (.int .u8), .val t4] t7 .ro a
def t0 : T0 := fun a => (iteB (decide (((List.length a.2.1 : Nat) : Int) = (1 : Int))) (withinR (0 : Int) (List.length a.2.1) fun q1 => (some ((out0 (List.getD a.2.1 q1 (pk0 ((0 : Int), ((List.replicate 4 (0 : Int)), ([] : List (N0))))))), ()))) (some ((a.1, ((List.replicate 4 (0 : Int)), a.2.1)), ())))
def p0 (k : Nat) : T0 := t0
theorem o0 (k : Nat) : u0 k = p0 k := Eq.trans (by kernel_rfl) rfl
end ref06_several
def s_ref06_several (a : D23) : Option D21 := ref06_several.p0 fuel a
def F_ref06_several : FSpec cx.toNm := { ps := [.val (.int .u8), .val t4], nres := 1, rt := t7, rm := .ro, f := s_ref06_several }
theorem ok_ref06_several : FnOk Try.prog F_ref06_several 35 := fn_of (F := F_ref06_several) (hn := ref06_several.h) (E := ref06_several.E) cxOk (tysT _ _ _) fs_nil follows Try.func35 (by kernel_rfl) (fun a r h => ⟨fuel, (congrFun (ref06_several.o0 fuel) a).trans ((by kernel_rfl : s_ref06_several a = F_ref06_several.f a).trans h)⟩)
namespace ref06_reader_see
def E : Env cx := { tys := tys, fs := fsOf [] }
abbrev R := Option (D36)
def h : Hint := { vs := [0, 2], ret := ([0, 2], [1000000]), cuts := [(2, ([0, 18], [1000000]), ([0], [1000000])), (3, ([0], [1000000]), ([0], [1000000]))] }
def W : Pr cx (D36) := ⟨E, h, bodyC Try.f32, fin (S := cx) E Try.f32.results.toList (.int .i64) .ro [1000000] [(t14, m_0)]⟩
abbrev T2 := D7 → R
abbrev T1 := Bool → D7 → R
abbrev T0 := D32 → R
def u0 (k : Nat) : T0 := fun a => runOf (S := cx) E h k Try.f32 [.io t14 m_0] (.int .i64) .ro a
abbrev l2 (c : Bool) (k : Nat) : T2 := fun m1000000 => lfR c W k [1, 1] [] ⟨[(0, vA 1000000)], [], [(1000000, ⟨t14, m_0, m1000000⟩)]⟩
abbrev l1 (c : Bool) (k : Nat) : T1 := fun x18 m1000000 => lfR c W k [1, 0, 1] [] ⟨[(0, vA 1000000), (18, vB x18)], [], [(1000000, ⟨t14, m_0, m1000000⟩)]⟩
def t2 : T2 := fun m1000000 => (withinR m1000000.2.1 (List.length m1000000.1) fun q1 => (some ((List.getD m1000000.1 q1 (0 : Int)), (m1000000, ()))))
def p2 (k : Nat) : T2 := t2
theorem o2 (k : Nat) : l2 true k = p2 k := lfo (b := l2 false k) (fx1 fun _ => lcR) (by kernel_rfl) rfl
def t1 (f2 : T2) : T1 := fun x18 m1000000 => (iteB x18 (some ((-1 : Int), (m1000000, ()))) (f2 m1000000))
def p1 (k : Nat) : T1 := t1 (p2 k)
theorem o1 (k : Nat) : l1 true k = p1 k := lfo (b := l1 false k) (fx2 fun _ _ => lcR) (by kernel_rfl) (congrArg t1 (o2 k))
def t0 (f1 : T1) : T0 := fun a => (iteB a.1.2.2.1 (f1 true a.1) (f1 (decide (((List.length a.1.1 : Nat) : Int) ≤ a.1.2.1)) a.1))
def p0 (k : Nat) : T0 := t0 (p1 k)
theorem o0 (k : Nat) : u0 k = p0 k := Eq.trans (by kernel_rfl) (congrArg t0 (o1 k))
end ref06_reader_see
def s_ref06_reader_see (a : D32) : Option D36 := ref06_reader_see.p0 fuel a
def F_ref06_reader_see : FSpec cx.toNm := { ps := [.io t14 m_0], nres := 1, rt := (.int .i64), rm := .ro, f := s_ref06_reader_see }
theorem ok_ref06_reader_see : FnOk Try.prog F_ref06_reader_see 32 := fn_of (F := F_ref06_reader_see) (hn := ref06_reader_see.h) (E := ref06_reader_see.E) cxOk (tysT _ _ _) fs_nil follows Try.func32 (by kernel_rfl) (fun a r h => ⟨fuel, (congrFun (ref06_reader_see.o0 fuel) a).trans ((by kernel_rfl : s_ref06_reader_see a = F_ref06_reader_see.f a).trans h)⟩)
namespace ref06_reader_take
def E : Env cx := { tys := tys, fs := fsOf [(32, F_ref06_reader_see)] }
abbrev R := Option (D36)
def h : Hint := { vs := [0, 2, 3], ret := ([0, 2], [1000000]), nil := [(0, m_0)], cuts := [(4, ([0, 3], [1000000]), ([0, 3], [1000000]))] }
def W : Pr cx (D36) := ⟨E, h, bodyC Try.f33, fin (S := cx) E Try.f33.results.toList (.int .i64) .ro [1000000] [(t14, m_0)]⟩
abbrev T1 := Int → D7 → R
abbrev T0 := D32 → R
def u0 (k : Nat) : T0 := fun a => runOf (S := cx) E h k Try.f33 [.io t14 m_0] (.int .i64) .ro a
abbrev l1 (c : Bool) (k : Nat) : T1 := fun x3 m1000000 => lfR c W k [1, 1, 1] [] ⟨[(0, vA 1000000), (3, vI x3)], [], [(1000000, ⟨t14, m_0, m1000000⟩)]⟩
def t1 : T1 := fun x3 m1000000 => (some (x3, ((m1000000.1, ((w64 (m1000000.2.1 + (1 : Int))), m1000000.2.2)), ())))
def p1 (k : Nat) : T1 := t1
theorem o1 (k : Nat) : l1 true k = p1 k := lfo (b := l1 false k) (fx2 fun _ _ => lcR) (by kernel_rfl) rfl
def t0 (f1 : T1) : T0 := fun a => (bindR (s_ref06_reader_see (a.1, ())) fun r1 => (iteB (decide (r1.1 < (0 : Int))) (f1 r1.1 (r1.2.1.1, (r1.2.1.2.1, (true, r1.2.1.2.2.2)))) (f1 r1.1 r1.2.1)))
def p0 (k : Nat) : T0 := t0 (p1 k)
theorem o0 (k : Nat) : u0 k = p0 k := Eq.trans (by kernel_rfl) (congrArg t0 (o1 k))
end ref06_reader_take
def s_ref06_reader_take (a : D32) : Option D36 := ref06_reader_take.p0 fuel a
def F_ref06_reader_take : FSpec cx.toNm := { ps := [.io t14 m_0], nres := 1, rt := (.int .i64), rm := .ro, f := s_ref06_reader_take }
theorem ok_ref06_reader_take : FnOk Try.prog F_ref06_reader_take 33 := fn_of (F := F_ref06_reader_take) (hn := ref06_reader_take.h) (E := ref06_reader_take.E) cxOk (tysT _ _ _) (fs_cons ok_ref06_reader_see fs_nil) follows Try.func33 (by kernel_rfl) (fun a r h => ⟨fuel, (congrFun (ref06_reader_take.o0 fuel) a).trans ((by kernel_rfl : s_ref06_reader_take a = F_ref06_reader_take.f a).trans h)⟩)
namespace ref06_special
def E : Env cx := { tys := tys, fs := fsOf [] }
abbrev R := Option (D14)
def h : Hint := { vs := [0, 2, 3, 4], ret := ([2], []), cuts := [(3, ([0, 3, 4], []), ([], [])), (7, ([], []), ([], []))] }
def W : Pr cx (D14) := ⟨E, h, bodyC Try.f57, fin (S := cx) E Try.f57.results.toList .bool .ro [] []⟩
abbrev T2 := R
abbrev T1 := Int → (List UInt8) → Int → R
abbrev T0 := D19 → R
def u0 (k : Nat) : T0 := fun a => runOf (S := cx) E h k Try.f57 [.val (.int .i64)] .bool .ro a
abbrev l2 (c : Bool) (k : Nat) : T2 := lfR c W k [1, 1, 1] [] ⟨[], [], []⟩
abbrev l1 (c : Bool) (k n1 : Nat) : T1 := fun x0 x3 x4 => lfL c W k [1, 1, 0, 1, 0] [] n1 ⟨[(0, vI x0), (3, vS x3), (4, vI x4)], [], []⟩
def t2 : T2 := (some (false, ()))
def p2 (k : Nat) : T2 := t2
theorem o2 (k : Nat) : l2 true k = p2 k := lfo (b := l2 false k) lcR (by kernel_rfl) rfl
def t1 (f1 : T1) (f2 : T2) : T1 := fun x0 x3 x4 => (iteB (decide (x4 < ((List.length x3 : Nat) : Int))) (withinR x4 (List.length x3) fun q1 => (iteB (decide ((w64 ((byteAt x3 q1))) = x0)) (some (true, ())) (f1 x0 x3 (w64 (x4 + (1 : Int)))))) f2)
def p1 (k : Nat) : Nat → T1 := iter fun f => t1 f (p2 k)
theorem o1 (k : Nat) : ∀ n, l1 true k n = p1 k n := oL (u := l1 false k) (by kernel_rfl) (fun n1 => (fx3 fun _ _ _ => lcL)) (fun n1 => by kernel_rfl) (fun n1 f h => (congr (congrArg t1 h) (o2 k)))
def t0 (f1 : T1) : T0 := fun a => (f1 a.1 ([124, 42, 43, 63, 40, 41, 91, 93, 46, 92] : List UInt8) (0 : Int))
def p0 (k : Nat) : T0 := t0 (p1 k k)
theorem o0 (k : Nat) : u0 k = p0 k := Eq.trans (by kernel_rfl) (congrArg t0 (o1 k k))
end ref06_special
def s_ref06_special (a : D19) : Option D14 := ref06_special.p0 fuel a
def F_ref06_special : FSpec cx.toNm := { ps := [.val (.int .i64)], nres := 1, rt := .bool, rm := .ro, f := s_ref06_special }
theorem ok_ref06_special : FnOk Try.prog F_ref06_special 57 := fn_of (F := F_ref06_special) (hn := ref06_special.h) (E := ref06_special.E) cxOk (tysT _ _ _) fs_nil follows Try.func57 (by kernel_rfl) (fun a r h => ⟨fuel, (congrFun (ref06_special.o0 fuel) a).trans ((by kernel_rfl : s_ref06_special a = F_ref06_special.f a).trans h)⟩)
namespace ref06_reader_escape
def E : Env cx := { tys := tys, fs := fsOf [(33, F_ref06_reader_take), (57, F_ref06_special)] }
abbrev R := Option (D36)
def h : Hint := { vs := [0, 2, 3], ret := ([0, 2], [1000000]), nil := [(0, m_0)], cuts := [(9, ([0, 3, 22], [1000000]), ([0, 3], [1000000])), (10, ([0, 3], [1000000]), ([0, 3], [1000000]))] }
def W : Pr cx (D36) := ⟨E, h, bodyC Try.f56, fin (S := cx) E Try.f56.results.toList (.int .i64) .ro [1000000] [(t14, m_0)]⟩
abbrev T2 := Int → D7 → R
abbrev T1 := Int → Bool → D7 → R
abbrev T0 := D32 → R
def u0 (k : Nat) : T0 := fun a => runOf (S := cx) E h k Try.f56 [.io t14 m_0] (.int .i64) .ro a
abbrev l2 (c : Bool) (k : Nat) : T2 := fun x3 m1000000 => lfR c W k [1, 1, 1, 1, 1, 1] [] ⟨[(0, vA 1000000), (3, vI x3)], [], [(1000000, ⟨t14, m_0, m1000000⟩)]⟩
abbrev l1 (c : Bool) (k : Nat) : T1 := fun x3 x22 m1000000 => lfR c W k [1, 1, 1, 1, 1, 0, 1] [] ⟨[(0, vA 1000000), (3, vI x3), (22, vB x22)], [], [(1000000, ⟨t14, m_0, m1000000⟩)]⟩
def t2 : T2 := fun x3 m1000000 => (some (x3, (m1000000, ())))
def p2 (k : Nat) : T2 := t2
theorem o2 (k : Nat) : l2 true k = p2 k := lfo (b := l2 false k) (fx2 fun _ _ => lcR) (by kernel_rfl) rfl
def t1 (f2 : T2) : T1 := fun x3 x22 m1000000 => (iteB x22 (f2 x3 (m1000000.1, (m1000000.2.1, (true, m1000000.2.2.2)))) (f2 x3 m1000000))
def p1 (k : Nat) : T1 := t1 (p2 k)
theorem o1 (k : Nat) : l1 true k = p1 k := lfo (b := l1 false k) (fx3 fun _ _ _ => lcR) (by kernel_rfl) (congrArg t1 (o2 k))
def t0 (f1 : T1) : T0 := fun a => (bindR (s_ref06_reader_take (a.1, ())) fun r1 => (iteB (decide (r1.1 = (110 : Int))) (some ((10 : Int), (r1.2.1, ()))) (iteB (decide (r1.1 = (116 : Int))) (some ((9 : Int), (r1.2.1, ()))) (iteB (decide (r1.1 = (114 : Int))) (some ((13 : Int), (r1.2.1, ()))) (bindR (s_ref06_special (r1.1, ())) fun r2 => (iteB (notB r2.1) (iteB (!decide (r1.1 = (45 : Int))) (f1 r1.1 (!decide (r1.1 = (94 : Int))) r1.2.1) (f1 r1.1 false r1.2.1)) (f1 r1.1 false r1.2.1)))))))
def p0 (k : Nat) : T0 := t0 (p1 k)
theorem o0 (k : Nat) : u0 k = p0 k := Eq.trans (by kernel_rfl) (congrArg t0 (o1 k))
end ref06_reader_escape
def s_ref06_reader_escape (a : D32) : Option D36 := ref06_reader_escape.p0 fuel a
def F_ref06_reader_escape : FSpec cx.toNm := { ps := [.io t14 m_0], nres := 1, rt := (.int .i64), rm := .ro, f := s_ref06_reader_escape }
theorem ok_ref06_reader_escape : FnOk Try.prog F_ref06_reader_escape 56 := fn_of (F := F_ref06_reader_escape) (hn := ref06_reader_escape.h) (E := ref06_reader_escape.E) cxOk (tysT _ _ _) (fs_cons ok_ref06_reader_take (fs_cons ok_ref06_special fs_nil)) follows Try.func56 (by kernel_rfl) (fun a r h => ⟨fuel, (congrFun (ref06_reader_escape.o0 fuel) a).trans ((by kernel_rfl : s_ref06_reader_escape a = F_ref06_reader_escape.f a).trans h)⟩)
namespace ref06_reader_bound
def E : Env cx := { tys := tys, fs := fsOf [(33, F_ref06_reader_take), (56, F_ref06_reader_escape)] }
abbrev R := Option (D36)
def h : Hint := { vs := [0, 2, 3], ret := ([0, 2], [1000000]), nil := [(0, m_0)], cuts := [(5, ([0, 3, 23], [1000000]), ([0, 3], [1000000])), (6, ([0, 3], [1000000]), ([0, 3], [1000000]))] }
def W : Pr cx (D36) := ⟨E, h, bodyC Try.f64, fin (S := cx) E Try.f64.results.toList (.int .i64) .ro [1000000] [(t14, m_0)]⟩
abbrev T2 := Int → D7 → R
abbrev T1 := Int → Bool → D7 → R
abbrev T0 := D32 → R
def u0 (k : Nat) : T0 := fun a => runOf (S := cx) E h k Try.f64 [.io t14 m_0] (.int .i64) .ro a
abbrev l2 (c : Bool) (k : Nat) : T2 := fun x3 m1000000 => lfR c W k [1, 1, 1, 1] [] ⟨[(0, vA 1000000), (3, vI x3)], [], [(1000000, ⟨t14, m_0, m1000000⟩)]⟩
abbrev l1 (c : Bool) (k : Nat) : T1 := fun x3 x23 m1000000 => lfR c W k [1, 1, 1, 0, 1] [] ⟨[(0, vA 1000000), (3, vI x3), (23, vB x23)], [], [(1000000, ⟨t14, m_0, m1000000⟩)]⟩
def t2 : T2 := fun x3 m1000000 => (some (x3, (m1000000, ())))
def p2 (k : Nat) : T2 := t2
theorem o2 (k : Nat) : l2 true k = p2 k := lfo (b := l2 false k) (fx2 fun _ _ => lcR) (by kernel_rfl) rfl
def t1 (f2 : T2) : T1 := fun x3 x23 m1000000 => (iteB x23 (f2 x3 (m1000000.1, (m1000000.2.1, (true, m1000000.2.2.2)))) (f2 x3 m1000000))
def p1 (k : Nat) : T1 := t1 (p2 k)
theorem o1 (k : Nat) : l1 true k = p1 k := lfo (b := l1 false k) (fx3 fun _ _ _ => lcR) (by kernel_rfl) (congrArg t1 (o2 k))
def t0 (f1 : T1) : T0 := fun a => (bindR (s_ref06_reader_take (a.1, ())) fun r1 => (iteB (decide (r1.1 = (92 : Int))) (bindR (s_ref06_reader_escape (r1.2.1, ())) fun r2 => (some (r2.1, (r2.2.1, ())))) (iteB (decide ((127 : Int) < r1.1)) (f1 r1.1 true r1.2.1) (iteB (decide (r1.1 = (93 : Int))) (f1 r1.1 true r1.2.1) (iteB (decide (r1.1 = (45 : Int))) (f1 r1.1 true r1.2.1) (f1 r1.1 (decide (r1.1 = (94 : Int))) r1.2.1))))))
def p0 (k : Nat) : T0 := t0 (p1 k)
theorem o0 (k : Nat) : u0 k = p0 k := Eq.trans (by kernel_rfl) (congrArg t0 (o1 k))
end ref06_reader_bound
def s_ref06_reader_bound (a : D32) : Option D36 := ref06_reader_bound.p0 fuel a
def F_ref06_reader_bound : FSpec cx.toNm := { ps := [.io t14 m_0], nres := 1, rt := (.int .i64), rm := .ro, f := s_ref06_reader_bound }
theorem ok_ref06_reader_bound : FnOk Try.prog F_ref06_reader_bound 64 := fn_of (F := F_ref06_reader_bound) (hn := ref06_reader_bound.h) (E := ref06_reader_bound.E) cxOk (tysT _ _ _) (fs_cons ok_ref06_reader_take (fs_cons ok_ref06_reader_escape fs_nil)) follows Try.func64 (by kernel_rfl) (fun a r h => ⟨fuel, (congrFun (ref06_reader_bound.o0 fuel) a).trans ((by kernel_rfl : s_ref06_reader_bound a = F_ref06_reader_bound.f a).trans h)⟩)
namespace ref05_Has
def E : Env cx := { tys := tys, fs := fsOf [] }
abbrev R := Option (D14)
def h : Hint := { vs := [0, 1, 2, 4, 5, 6], ret := ([4], [2]), cuts := [(3, ([1, 5, 6], []), ([5], [])), (6, ([5], []), ([5], []))] }
def W : Pr cx (D14) := ⟨E, h, bodyC Try.f42, fin (S := cx) E Try.f42.results.toList .bool .ro [] []⟩
abbrev T2 := Int → R
abbrev T1 := Int → Int → Int → R
abbrev T0 := D38 → R
def u0 (k : Nat) : T0 := fun a => runOf (S := cx) E h k Try.f42 [.val t3, .val (.int .u8)] .bool .ro a
abbrev l2 (c : Bool) (k : Nat) : T2 := fun x5 => lfR c W k [1, 1, 1] [] ⟨[(5, vR (.int .u64) x5)], [], []⟩
abbrev l1 (c : Bool) (k n1 : Nat) : T1 := fun x1 x5 x6 => lfL c W k [1, 1, 0, 1, 0] [] n1 ⟨[(1, vR (.int .u8) x1), (5, vR (.int .u64) x5), (6, vI x6)], [], []⟩
def t2 : T2 := fun x5 => (some ((decide ((Int.tmod x5 (2 : Int)) = (1 : Int))), ()))
def p2 (k : Nat) : T2 := t2
theorem o2 (k : Nat) : l2 true k = p2 k := lfo (b := l2 false k) (fx1 fun _ => lcR) (by kernel_rfl) rfl
def t1 (f1 : T1) (f2 : T2) : T1 := fun x1 x5 x6 => (iteB (decide (x6 < (Int.tmod (w64 (x1)) (64 : Int)))) (f1 x1 (IntKind.wrap .u64 (Int.tdiv x5 (2 : Int))) (w64 (x6 + (1 : Int)))) (f2 x5))
def p1 (k : Nat) : Nat → T1 := iter fun f => t1 f (p2 k)
theorem o1 (k : Nat) : ∀ n, l1 true k n = p1 k n := oL (u := l1 false k) (by kernel_rfl) (fun n1 => (fx3 fun _ _ _ => lcL)) (fun n1 => by kernel_rfl) (fun n1 f h => (congr (congrArg t1 h) (o2 k)))
def t0 (f1 : T1) : T0 := fun a => (withinR (w64 (Int.tdiv (w64 (a.2.1)) (64 : Int))) 4 fun q1 => (f1 a.2.1 (List.getD a.1 q1 (0 : Int)) (0 : Int)))
def p0 (k : Nat) : T0 := t0 (p1 k k)
theorem o0 (k : Nat) : u0 k = p0 k := Eq.trans (by kernel_rfl) (congrArg t0 (o1 k k))
end ref05_Has
def s_ref05_Has (a : D38) : Option D14 := ref05_Has.p0 fuel a
def F_ref05_Has : FSpec cx.toNm := { ps := [.val t3, .val (.int .u8)], nres := 1, rt := .bool, rm := .ro, f := s_ref05_Has }
theorem ok_ref05_Has : FnOk Try.prog F_ref05_Has 42 := fn_of (F := F_ref05_Has) (hn := ref05_Has.h) (E := ref05_Has.E) cxOk (tysT _ _ _) fs_nil follows Try.func42 (by kernel_rfl) (fun a r h => ⟨fuel, (congrFun (ref05_Has.o0 fuel) a).trans ((by kernel_rfl : s_ref05_Has a = F_ref05_Has.f a).trans h)⟩)
namespace ref05_Put
def E : Env cx := { tys := tys, fs := fsOf [(42, F_ref05_Has)] }
abbrev R := Option (D43)
def h : Hint := { vs := [0, 1, 2, 4, 5, 6], ret := ([4], [2, 4]), nil := [(0, (.own .ro))], cuts := [(5, ([1, 2, 4, 5, 6], [2, 4]), ([1, 2, 4, 5], [2, 4])), (8, ([1, 2, 4, 5], [2, 4]), ([1, 2, 4, 5], [2, 4]))] }
def W : Pr cx (D43) := ⟨E, h, bodyC Try.f65, fin (S := cx) E Try.f65.results.toList t3 .ro [] []⟩
abbrev T2 := Int → Int → (List Int) → (List Int) → R
abbrev T1 := Int → Int → Int → (List Int) → (List Int) → R
abbrev T0 := D38 → R
def u0 (k : Nat) : T0 := fun a => runOf (S := cx) E h k Try.f65 [.val t3, .val (.int .u8)] t3 .ro a
abbrev l2 (c : Bool) (k : Nat) : T2 := fun x1 x5 m2 m4 => lfR c W k [1, 1, 1, 1] [] ⟨[(1, vR (.int .u8) x1), (2, vA 2), (4, vA 4), (5, vR (.int .u64) x5)], [], [(2, ⟨t3, .ro, m2⟩), (4, ⟨t3, .ro, m4⟩)]⟩
abbrev l1 (c : Bool) (k n1 : Nat) : T1 := fun x1 x5 x6 m2 m4 => lfL c W k [1, 1, 1, 0, 1, 0] [] n1 ⟨[(1, vR (.int .u8) x1), (2, vA 2), (4, vA 4), (5, vR (.int .u64) x5), (6, vI x6)], [], [(2, ⟨t3, .ro, m2⟩), (4, ⟨t3, .ro, m4⟩)]⟩
def t2 : T2 := fun x1 x5 m2 m4 => (withinR (w64 (Int.tdiv (w64 (x1)) (64 : Int))) 4 fun q2 => (withinR (w64 (Int.tdiv (w64 (x1)) (64 : Int))) 4 fun q3 => (some ((List.set m2 q3 (IntKind.wrap .u64 ((List.getD m2 q2 (0 : Int)) + x5))), ()))))
def p2 (k : Nat) : T2 := t2
theorem o2 (k : Nat) : l2 true k = p2 k := lfo (b := l2 false k) (fx4 fun _ _ _ _ => lcR) (by kernel_rfl) rfl
def t1 (f1 : T1) (f2 : T2) : T1 := fun x1 x5 x6 m2 m4 => (iteB (decide (x6 < (Int.tmod (w64 (x1)) (64 : Int)))) (f1 x1 (IntKind.wrap .u64 ((2 : Int) * x5)) (w64 (x6 + (1 : Int))) m2 m4) (f2 x1 x5 m2 m4))
def p1 (k : Nat) : Nat → T1 := iter fun f => t1 f (p2 k)
theorem o1 (k : Nat) : ∀ n, l1 true k n = p1 k n := oL (u := l1 false k) (by kernel_rfl) (fun n1 => (fx5 fun _ _ _ _ _ => lcL)) (fun n1 => by kernel_rfl) (fun n1 f h => (congr (congrArg t1 h) (o2 k)))
def t0 (f1 : T1) : T0 := fun a => (bindR (s_ref05_Has (a.1, (a.2.1, ()))) fun r1 => (iteB r1.1 (some (a.1, ())) (f1 a.2.1 (1 : Int) (0 : Int) a.1 (List.replicate 4 (0 : Int)))))
def p0 (k : Nat) : T0 := t0 (p1 k k)
theorem o0 (k : Nat) : u0 k = p0 k := Eq.trans (by kernel_rfl) (congrArg t0 (o1 k k))
end ref05_Put
def s_ref05_Put (a : D38) : Option D43 := ref05_Put.p0 fuel a
def F_ref05_Put : FSpec cx.toNm := { ps := [.val t3, .val (.int .u8)], nres := 1, rt := t3, rm := .ro, f := s_ref05_Put }
theorem ok_ref05_Put : FnOk Try.prog F_ref05_Put 65 := fn_of (F := F_ref05_Put) (hn := ref05_Put.h) (E := ref05_Put.E) cxOk (tysT _ _ _) (fs_cons ok_ref05_Has fs_nil) follows Try.func65 (by kernel_rfl) (fun a r h => ⟨fuel, (congrFun (ref05_Put.o0 fuel) a).trans ((by kernel_rfl : s_ref05_Put a = F_ref05_Put.f a).trans h)⟩)
namespace ref06_one
def E : Env cx := { tys := tys, fs := fsOf [] }
abbrev R := Option (D21)
def h : Hint := { vs := [0, 1, 2], ret := ([2], [1, 2]) }
def W : Pr cx (D21) := ⟨E, h, bodyC Try.f66, fin (S := cx) E Try.f66.results.toList t7 .ro [] []⟩
abbrev T0 := D43 → R
def u0 (k : Nat) : T0 := fun a => runOf (S := cx) E h k Try.f66 [.val t3] t7 .ro a
def t0 : T0 := fun a => (some (((1 : Int), (a.1, ([] : List (N0)))), ()))
def p0 (k : Nat) : T0 := t0
theorem o0 (k : Nat) : u0 k = p0 k := Eq.trans (by kernel_rfl) rfl
end ref06_one
def s_ref06_one (a : D43) : Option D21 := ref06_one.p0 fuel a
def F_ref06_one : FSpec cx.toNm := { ps := [.val t3], nres := 1, rt := t7, rm := .ro, f := s_ref06_one }
theorem ok_ref06_one : FnOk Try.prog F_ref06_one 66 := fn_of (F := F_ref06_one) (hn := ref06_one.h) (E := ref06_one.E) cxOk (tysT _ _ _) fs_nil follows Try.func66 (by kernel_rfl) (fun a r h => ⟨fuel, (congrFun (ref06_one.o0 fuel) a).trans ((by kernel_rfl : s_ref06_one a = F_ref06_one.f a).trans h)⟩)
namespace ref06_set
def E : Env cx := { tys := tys, fs := fsOf [(65, F_ref05_Put)] }
abbrev R := Option (D43)
def h : Hint := { vs := [0, 1, 4, 5, 6], ret := ([4], [4, 5]), cuts := [(3, ([1, 4, 5, 6], [4, 5]), ([4, 5], [4, 5])), (6, ([4, 5], [4, 5]), ([4, 5], [4, 5]))] }
def W : Pr cx (D43) := ⟨E, h, bodyC Try.f54, fin (S := cx) E Try.f54.results.toList t3 .ro [] []⟩
abbrev T2 := (List Int) → (List Int) → R
abbrev T1 := Int → Int → (List Int) → (List Int) → R
abbrev T0 := D45 → R
def u0 (k : Nat) : T0 := fun a => runOf (S := cx) E h k Try.f54 [.val (.int .i64), .val (.int .i64)] t3 .ro a
abbrev l2 (c : Bool) (k : Nat) : T2 := fun m4 m5 => lfR c W k [1, 1, 1] [] ⟨[(4, vA 4), (5, vA 5)], [], [(4, ⟨t3, .ro, m4⟩), (5, ⟨t3, .ro, m5⟩)]⟩
abbrev l1 (c : Bool) (k n1 : Nat) : T1 := fun x1 x6 m4 m5 => lfL c W k [1, 1, 0, 1, 0] [] n1 ⟨[(1, vI x1), (4, vA 4), (5, vA 5), (6, vI x6)], [], [(4, ⟨t3, .ro, m4⟩), (5, ⟨t3, .ro, m5⟩)]⟩
def t2 : T2 := fun m4 m5 => (some (m5, ()))
def p2 (k : Nat) : T2 := t2
theorem o2 (k : Nat) : l2 true k = p2 k := lfo (b := l2 false k) (fx2 fun _ _ => lcR) (by kernel_rfl) rfl
def t1 (f1 : T1) (f2 : T2) : T1 := fun x1 x6 m4 m5 => (iteB (decide (x6 ≤ x1)) (bindR (s_ref05_Put (m5, ((w8 (x6)), ()))) fun r1 => (f1 x1 (w64 (x6 + (1 : Int))) m4 r1.1)) (f2 m4 m5))
def p1 (k : Nat) : Nat → T1 := iter fun f => t1 f (p2 k)
theorem o1 (k : Nat) : ∀ n, l1 true k n = p1 k n := oL (u := l1 false k) (by kernel_rfl) (fun n1 => (fx4 fun _ _ _ _ => lcL)) (fun n1 => by kernel_rfl) (fun n1 f h => (congr (congrArg t1 h) (o2 k)))
def t0 (f1 : T1) : T0 := fun a => (f1 a.2.1 a.1 (List.replicate 4 (0 : Int)) (List.replicate 4 (0 : Int)))
def p0 (k : Nat) : T0 := t0 (p1 k k)
theorem o0 (k : Nat) : u0 k = p0 k := Eq.trans (by kernel_rfl) (congrArg t0 (o1 k k))
end ref06_set
def s_ref06_set (a : D45) : Option D43 := ref06_set.p0 fuel a
def F_ref06_set : FSpec cx.toNm := { ps := [.val (.int .i64), .val (.int .i64)], nres := 1, rt := t3, rm := .ro, f := s_ref06_set }
theorem ok_ref06_set : FnOk Try.prog F_ref06_set 54 := fn_of (F := F_ref06_set) (hn := ref06_set.h) (E := ref06_set.E) cxOk (tysT _ _ _) (fs_cons ok_ref05_Put fs_nil) follows Try.func54 (by kernel_rfl) (fun a r h => ⟨fuel, (congrFun (ref06_set.o0 fuel) a).trans ((by kernel_rfl : s_ref06_set a = F_ref06_set.f a).trans h)⟩)
namespace ref06_but
def E : Env cx := { tys := tys, fs := fsOf [(35, F_ref06_several), (42, F_ref05_Has), (54, F_ref06_set), (65, F_ref05_Put), (66, F_ref06_one)] }
abbrev R := Option (D21)
def h : Hint := { vs := [0, 1, 2, 3, 4, 5], ret := ([2], [1, 2, 3, 5]), ords := [(8, [0, 4, 9, 10, 15, 16, 17, 1, 2, 3, 5, 6, 7, 8, 11, 12, 13, 14, 18, 19, 20, 21, 22])], cuts := [(3, ([1, 2, 3, 4], [1, 2, 3]), ([2, 3], [2, 3])), (4, ([1, 2, 3, 4], [1, 2, 3]), ([1, 2, 3, 4], [1, 2, 3])), (7, ([2, 3], [2, 3]), ([2, 3], [2, 3]))] }
def W : Pr cx (D21) := ⟨E, h, bodyC Try.f53, fin (S := cx) E Try.f53.results.toList t7 .ro [] []⟩
abbrev T2 := Int → (List Int) → D2 → (List Int) → R
abbrev T3 := D2 → (List Int) → R
abbrev T1 := Int → (List Int) → D2 → (List Int) → R
abbrev T0 := D43 → R
def u0 (k : Nat) : T0 := fun a => runOf (S := cx) E h k Try.f53 [.val t3] t7 .ro a
abbrev l2 (c : Bool) (k n1 : Nat) : T2 := fun x4 m1 m2 m3 => lfR c W k [1, 1, 0, 1, 0, 0, 1, 1] [n1] ⟨[(1, vA 1), (2, vA 2), (3, vA 3), (4, vI x4)], [], [(1, ⟨t3, .ro, m1⟩), (2, ⟨t7, .ro, m2⟩), (3, ⟨t3, .ro, m3⟩)]⟩
abbrev l3 (c : Bool) (k : Nat) : T3 := fun m2 m3 => lfR c W k [1, 1, 1] [] ⟨[(2, vA 2), (3, vA 3)], [], [(2, ⟨t7, .ro, m2⟩), (3, ⟨t3, .ro, m3⟩)]⟩
abbrev l1 (c : Bool) (k n1 : Nat) : T1 := fun x4 m1 m2 m3 => lfL c W k [1, 1, 0, 1, 0] [] n1 ⟨[(1, vA 1), (2, vA 2), (3, vA 3), (4, vI x4)], [], [(1, ⟨t3, .ro, m1⟩), (2, ⟨t7, .ro, m2⟩), (3, ⟨t3, .ro, m3⟩)]⟩
def t2 (f1 : T1) : T2 := fun x4 m1 m2 m3 => (f1 (w64 (x4 + (1 : Int))) m1 m2 m3)
def p2 (k : Nat) (a1 : T1) : T2 := t2 a1
theorem o2 (k n1 : Nat) (a1 : T1) (h1 : l1 true k n1 = a1) : l2 true k n1 = p2 k a1 := lfo (b := l2 false k n1) (fx4 fun _ _ _ _ => lcR) (by kernel_rfl) (congrArg t2 h1)
def t3 : T3 := fun m2 m3 => (bindR (s_ref06_set ((128 : Int), ((191 : Int), ()))) fun r3 => (bindR (s_ref06_one (r3.1, ())) fun r4 => (bindR (s_ref06_one (m3, ())) fun r5 => (bindR (s_ref06_set ((194 : Int), ((223 : Int), ()))) fun r6 => (bindR (s_ref06_one (r6.1, ())) fun r7 => (bindR (s_ref06_several ((2 : Int), (([(pk0 r7.1), (pk0 r4.1)] : List (N0)), ()))) fun r8 => (bindR (s_ref06_set ((224 : Int), ((239 : Int), ()))) fun r9 => (bindR (s_ref06_one (r9.1, ())) fun r10 => (bindR (s_ref06_several ((2 : Int), (([(pk0 r10.1), (pk0 r4.1), (pk0 r4.1)] : List (N0)), ()))) fun r11 => (bindR (s_ref06_set ((240 : Int), ((244 : Int), ()))) fun r12 => (bindR (s_ref06_one (r12.1, ())) fun r13 => (bindR (s_ref06_several ((2 : Int), (([(pk0 r13.1), (pk0 r4.1), (pk0 r4.1), (pk0 r4.1)] : List (N0)), ()))) fun r14 => (bindR (s_ref06_several ((3 : Int), (([(pk0 r5.1), (pk0 r8.1), (pk0 r11.1), (pk0 r14.1)] : List (N0)), ()))) fun r15 => (some (r15.1, ())))))))))))))))
def p3 (k : Nat) : T3 := t3
theorem o3 (k : Nat) : l3 true k = p3 k := lfo (b := l3 false k) (fx2 fun _ _ => lcR) (by kernel_rfl) rfl
def t1 (f2 : T2) (f3 : T3) : T1 := fun x4 m1 m2 m3 => (iteB (decide (x4 < (128 : Int))) (bindR (s_ref05_Has (m1, ((w8 (x4)), ()))) fun r1 => (iteB (notB r1.1) (bindR (s_ref05_Put (m3, ((w8 (x4)), ()))) fun r2 => (f2 x4 m1 m2 r2.1)) (f2 x4 m1 m2 m3))) (f3 m2 m3))
def p1 (k : Nat) : Nat → T1 := iter fun f => t1 (p2 k f) (p3 k)
theorem o1 (k : Nat) : ∀ n, l1 true k n = p1 k n := oL (u := l1 false k) (by kernel_rfl) (fun n1 => (fx4 fun _ _ _ _ => lcL)) (fun n1 => by kernel_rfl) (fun n1 f h => (congr (congrArg t1 (o2 k n1 f h)) (o3 k)))
def t0 (f1 : T1) : T0 := fun a => (f1 (0 : Int) a.1 ((0 : Int), ((List.replicate 4 (0 : Int)), ([] : List (N0)))) (List.replicate 4 (0 : Int)))
def p0 (k : Nat) : T0 := t0 (p1 k k)
theorem o0 (k : Nat) : u0 k = p0 k := Eq.trans (by kernel_rfl) (congrArg t0 (o1 k k))
end ref06_but
def s_ref06_but (a : D43) : Option D21 := ref06_but.p0 fuel a
def F_ref06_but : FSpec cx.toNm := { ps := [.val t3], nres := 1, rt := t7, rm := .ro, f := s_ref06_but }
theorem ok_ref06_but : FnOk Try.prog F_ref06_but 53 := fn_of (F := F_ref06_but) (hn := ref06_but.h) (E := ref06_but.E) cxOk (tysT _ _ _) (fs_cons ok_ref06_several (fs_cons ok_ref05_Has (fs_cons ok_ref06_set (fs_cons ok_ref05_Put (fs_cons ok_ref06_one fs_nil))))) follows Try.func53 (by kernel_rfl) (fun a r h => ⟨fuel, (congrFun (ref06_but.o0 fuel) a).trans ((by kernel_rfl : s_ref06_but a = F_ref06_but.f a).trans h)⟩)
namespace ref06_reader_class
def E : Env cx := { tys := tys, fs := fsOf [(32, F_ref06_reader_see), (33, F_ref06_reader_take), (53, F_ref06_but), (64, F_ref06_reader_bound), (65, F_ref05_Put), (66, F_ref06_one)] }
abbrev R := Option (D33)
def h : Hint := { vs := [0, 2, 3, 4, 5, 6, 7, 8], ret := ([0, 2], [2, 4, 1000000]), nil := [(0, m_0)], cuts := [(4, ([0, 2, 3], [2, 1000000]), ([0, 2, 3], [2, 1000000])), (6, ([0, 2, 3, 4, 5], [2, 4, 1000000]), ([0, 2, 3, 4], [2, 4, 1000000])), (7, ([0, 2, 3, 4, 5], [2, 4, 1000000]), ([0, 2, 3, 4, 5], [2, 4, 1000000])), (8, ([0, 2, 3, 4, 5], [2, 4, 1000000]), ([0, 2, 3, 4, 5], [2, 4, 1000000])), (13, ([0, 2, 3, 4, 5, 6, 7], [2, 4, 1000000]), ([0, 2, 3, 4, 5], [2, 4, 1000000])), (14, ([0, 2, 3, 4, 5, 6, 7, 49], [2, 4, 1000000]), ([0, 2, 3, 4, 5, 6, 7], [2, 4, 1000000])), (16, ([0, 2, 3, 4, 5, 6, 7], [2, 4, 1000000]), ([0, 2, 3, 4, 5], [2, 4, 1000000])), (17, ([0, 2, 3, 4, 5, 7, 8], [2, 4, 1000000]), ([0, 2, 3, 4, 5], [2, 4, 1000000])), (20, ([0, 2, 3, 4], [2, 4, 1000000]), ([0, 2, 3, 4], [2, 4, 1000000])), (1000000, ([0, 2, 3, 4, 5, 28], [2, 4, 1000000]), ([0, 2, 3, 4, 5], [2, 4, 1000000]))] }
def W : Pr cx (D33) := ⟨E, h, bodyC Try.f52, fin (S := cx) E Try.f52.results.toList t7 .ro [1000000] [(t14, m_0)]⟩
abbrev T10 := Bool → Int → D2 → (List Int) → D7 → R
abbrev T9 := Bool → Int → Int → Int → D2 → (List Int) → D7 → R
abbrev T8 := Bool → Int → Int → Int → D2 → (List Int) → D7 → R
abbrev T7 := Bool → Int → Int → Int → Bool → D2 → (List Int) → D7 → R
abbrev T6 := Bool → Int → Int → Int → D2 → (List Int) → D7 → R
abbrev T4 := Bool → Int → D2 → (List Int) → D7 → R
abbrev T5 := Bool → D2 → (List Int) → D7 → R
abbrev T3 := Bool → Int → Bool → D2 → (List Int) → D7 → R
abbrev T2 := Bool → Int → D2 → (List Int) → D7 → R
abbrev T1 := Bool → D2 → D7 → R
abbrev T0 := D32 → R
def u0 (k : Nat) : T0 := fun a => runOf (S := cx) E h k Try.f52 [.io t14 m_0] t7 .ro a
abbrev l10 (c : Bool) (k n2 : Nat) : T10 := fun x3 x5 m2 m4 m1000000 => lfR c W k [1, 1, 1, 1, 0, 1, 0, 0, 1, 1] [n2] ⟨[(0, vA 1000000), (2, vA 2), (3, vB x3), (4, vA 4), (5, vI x5)], [], [(2, ⟨t7, .ro, m2⟩), (4, ⟨t3, .ro, m4⟩), (1000000, ⟨t14, m_0, m1000000⟩)]⟩
abbrev l9 (c : Bool) (k n2 n9 : Nat) : T9 := fun x3 x5 x7 x8 m2 m4 m1000000 => lfL c W k [1, 1, 1, 1, 0, 1, 0, 0, 1, 0, 0, 1, 1, 1, 1, 1, 0] [n2] n9 ⟨[(0, vA 1000000), (2, vA 2), (3, vB x3), (4, vA 4), (5, vI x5), (7, vI x7), (8, vI x8)], [], [(2, ⟨t7, .ro, m2⟩), (4, ⟨t3, .ro, m4⟩), (1000000, ⟨t14, m_0, m1000000⟩)]⟩
abbrev l8 (c : Bool) (k n2 : Nat) : T8 := fun x3 x5 x6 x7 m2 m4 m1000000 => lfR c W k [1, 1, 1, 1, 0, 1, 0, 0, 1, 0, 0, 1, 1, 1, 1] [n2] ⟨[(0, vA 1000000), (2, vA 2), (3, vB x3), (4, vA 4), (5, vI x5), (6, vI x6), (7, vI x7)], [], [(2, ⟨t7, .ro, m2⟩), (4, ⟨t3, .ro, m4⟩), (1000000, ⟨t14, m_0, m1000000⟩)]⟩
abbrev l7 (c : Bool) (k n2 : Nat) : T7 := fun x3 x5 x6 x7 x49 m2 m4 m1000000 => lfR c W k [1, 1, 1, 1, 0, 1, 0, 0, 1, 0, 0, 1, 1, 1, 0, 1] [n2] ⟨[(0, vA 1000000), (2, vA 2), (3, vB x3), (4, vA 4), (5, vI x5), (6, vI x6), (7, vI x7), (49, vB x49)], [], [(2, ⟨t7, .ro, m2⟩), (4, ⟨t3, .ro, m4⟩), (1000000, ⟨t14, m_0, m1000000⟩)]⟩
abbrev l6 (c : Bool) (k n2 : Nat) : T6 := fun x3 x5 x6 x7 m2 m4 m1000000 => lfR c W k [1, 1, 1, 1, 0, 1, 0, 0, 1, 0, 0, 1, 1, 1] [n2] ⟨[(0, vA 1000000), (2, vA 2), (3, vB x3), (4, vA 4), (5, vI x5), (6, vI x6), (7, vI x7)], [], [(2, ⟨t7, .ro, m2⟩), (4, ⟨t3, .ro, m4⟩), (1000000, ⟨t14, m_0, m1000000⟩)]⟩
abbrev l4 (c : Bool) (k n2 : Nat) : T4 := fun x3 x5 m2 m4 m1000000 => lfR c W k [1, 1, 1, 1, 0, 1, 0, 0, 1] [n2] ⟨[(0, vA 1000000), (2, vA 2), (3, vB x3), (4, vA 4), (5, vI x5)], [], [(2, ⟨t7, .ro, m2⟩), (4, ⟨t3, .ro, m4⟩), (1000000, ⟨t14, m_0, m1000000⟩)]⟩
abbrev l5 (c : Bool) (k : Nat) : T5 := fun x3 m2 m4 m1000000 => lfR c W k [1, 1, 1, 1, 1] [] ⟨[(0, vA 1000000), (2, vA 2), (3, vB x3), (4, vA 4)], [], [(2, ⟨t7, .ro, m2⟩), (4, ⟨t3, .ro, m4⟩), (1000000, ⟨t14, m_0, m1000000⟩)]⟩
abbrev l3 (c : Bool) (k n2 : Nat) : T3 := fun x3 x5 x28 m2 m4 m1000000 => lfR c W k [1, 1, 1, 1, 0, 1, 0, 0, 0, 1] [n2] ⟨[(0, vA 1000000), (2, vA 2), (3, vB x3), (4, vA 4), (5, vI x5), (28, vB x28)], [], [(2, ⟨t7, .ro, m2⟩), (4, ⟨t3, .ro, m4⟩), (1000000, ⟨t14, m_0, m1000000⟩)]⟩
abbrev l2 (c : Bool) (k n2 : Nat) : T2 := fun x3 x5 m2 m4 m1000000 => lfL c W k [1, 1, 1, 1, 0, 1, 0] [] n2 ⟨[(0, vA 1000000), (2, vA 2), (3, vB x3), (4, vA 4), (5, vI x5)], [], [(2, ⟨t7, .ro, m2⟩), (4, ⟨t3, .ro, m4⟩), (1000000, ⟨t14, m_0, m1000000⟩)]⟩
abbrev l1 (c : Bool) (k : Nat) : T1 := fun x3 m2 m1000000 => lfR c W k [1, 1, 1] [] ⟨[(0, vA 1000000), (2, vA 2), (3, vB x3)], [], [(2, ⟨t7, .ro, m2⟩), (1000000, ⟨t14, m_0, m1000000⟩)]⟩
def t10 (f2 : T2) : T10 := fun x3 x5 m2 m4 m1000000 => (f2 x3 (w64 (x5 + (1 : Int))) m2 m4 m1000000)
def p10 (k : Nat) (a2 : T2) : T10 := t10 a2
theorem o10 (k n2 : Nat) (a2 : T2) (h2 : l2 true k n2 = a2) : l10 true k n2 = p10 k a2 := lfo (b := l10 false k n2) (fx5 fun _ _ _ _ _ => lcR) (by kernel_rfl) (congrArg t10 h2)
def t9 (f9 : T9) (f10 : T10) : T9 := fun x3 x5 x7 x8 m2 m4 m1000000 => (iteB (decide (x8 ≤ x7)) (bindR (s_ref05_Put (m4, ((w8 (x8)), ()))) fun r8 => (f9 x3 x5 x7 (w64 (x8 + (1 : Int))) m2 r8.1 m1000000)) (f10 x3 x5 m2 m4 m1000000))
def p9 (k : Nat) (a2 : T2) : Nat → T9 := iter fun f => t9 f (p10 k a2)
theorem o9 (k n2 : Nat) (a2 : T2) (h2 : l2 true k n2 = a2) : ∀ n, l9 true k n2 n = p9 k a2 n := oL (u := l9 false k n2) (by kernel_rfl) (fun n9 => (fx7 fun _ _ _ _ _ _ _ => lcL)) (fun n9 => by kernel_rfl) (fun n9 f h => (congr (congrArg t9 h) (o10 k n2 a2 h2)))
def t8 (f9 : T9) : T8 := fun x3 x5 x6 x7 m2 m4 m1000000 => (f9 x3 x5 x7 x6 m2 m4 m1000000)
def p8 (k : Nat) (a2 : T2) : T8 := t8 (p9 k a2 k)
theorem o8 (k n2 : Nat) (a2 : T2) (h2 : l2 true k n2 = a2) : l8 true k n2 = p8 k a2 := lfo (b := l8 false k n2) (fx7 fun _ _ _ _ _ _ _ => lcR) (by kernel_rfl) (congrArg t8 (o9 k n2 a2 h2 k))
def t7 (f8 : T8) : T7 := fun x3 x5 x6 x7 x49 m2 m4 m1000000 => (iteB x49 (some (((0 : Int), ((List.replicate 4 (0 : Int)), ([] : List (N0)))), ((m1000000.1, (m1000000.2.1, (true, m1000000.2.2.2))), ()))) (f8 x3 x5 x6 x7 m2 m4 m1000000))
def p7 (k : Nat) (a2 : T2) : T7 := t7 (p8 k a2)
theorem o7 (k n2 : Nat) (a2 : T2) (h2 : l2 true k n2 = a2) : l7 true k n2 = p7 k a2 := lfo (b := l7 false k n2) (fx8 fun _ _ _ _ _ _ _ _ => lcR) (by kernel_rfl) (congrArg t7 (o8 k n2 a2 h2))
def t6 (f7 : T7) : T6 := fun x3 x5 x6 x7 m2 m4 m1000000 => (iteB m1000000.2.2.1 (f7 x3 x5 x6 x7 true m2 m4 m1000000) (f7 x3 x5 x6 x7 (decide (x7 < x6)) m2 m4 m1000000))
def p6 (k : Nat) (a2 : T2) : T6 := t6 (p7 k a2)
theorem o6 (k n2 : Nat) (a2 : T2) (h2 : l2 true k n2 = a2) : l6 true k n2 = p6 k a2 := lfo (b := l6 false k n2) (fx7 fun _ _ _ _ _ _ _ => lcR) (by kernel_rfl) (congrArg t6 (o7 k n2 a2 h2))
def t4 (f6 : T6) : T4 := fun x3 x5 m2 m4 m1000000 => (bindR (s_ref06_reader_bound (m1000000, ())) fun r4 => (bindR (s_ref06_reader_see (r4.2.1, ())) fun r5 => (iteB (decide (r5.1 = (45 : Int))) (bindR (s_ref06_reader_take (r5.2.1, ())) fun r6 => (bindR (s_ref06_reader_bound (r6.2.1, ())) fun r7 => (f6 x3 x5 r4.1 r7.1 m2 m4 r7.2.1))) (f6 x3 x5 r4.1 r4.1 m2 m4 r5.2.1))))
def p4 (k : Nat) (a2 : T2) : T4 := t4 (p6 k a2)
theorem o4 (k n2 : Nat) (a2 : T2) (h2 : l2 true k n2 = a2) : l4 true k n2 = p4 k a2 := lfo (b := l4 false k n2) (fx5 fun _ _ _ _ _ => lcR) (by kernel_rfl) (congrArg t4 (o6 k n2 a2 h2))
def t5 : T5 := fun x3 m2 m4 m1000000 => (bindR (s_ref06_reader_take (m1000000, ())) fun r9 => (iteB x3 (bindR (s_ref05_Put (m4, ((10 : Int), ()))) fun r10 => (bindR (s_ref06_but (r10.1, ())) fun r11 => (some (r11.1, (r9.2.1, ()))))) (bindR (s_ref06_one (m4, ())) fun r12 => (some (r12.1, (r9.2.1, ()))))))
def p5 (k : Nat) : T5 := t5
theorem o5 (k : Nat) : l5 true k = p5 k := lfo (b := l5 false k) (fx4 fun _ _ _ _ => lcR) (by kernel_rfl) rfl
def t3 (f4 : T4) (f5 : T5) : T3 := fun x3 x5 x28 m2 m4 m1000000 => (iteB x28 (f4 x3 x5 m2 m4 m1000000) (f5 x3 m2 m4 m1000000))
def p3 (k : Nat) (a2 : T2) : T3 := t3 (p4 k a2) (p5 k)
theorem o3 (k n2 : Nat) (a2 : T2) (h2 : l2 true k n2 = a2) : l3 true k n2 = p3 k a2 := lfo (b := l3 false k n2) (fx6 fun _ _ _ _ _ _ => lcR) (by kernel_rfl) (by have h := (congr (congrArg t3 (o4 k n2 a2 h2)) (o5 k)); exact h)
def t2 (f3 : T3) : T2 := fun x3 x5 m2 m4 m1000000 => (iteB (notB m1000000.2.2.1) (iteB (decide (x5 = (0 : Int))) (f3 x3 x5 true m2 m4 m1000000) (bindR (s_ref06_reader_see (m1000000, ())) fun r3 => (f3 x3 x5 (!decide (r3.1 = (93 : Int))) m2 m4 r3.2.1))) (f3 x3 x5 false m2 m4 m1000000))
def p2 (k : Nat) : Nat → T2 := iter fun f => t2 (p3 k f)
theorem o2 (k : Nat) : ∀ n, l2 true k n = p2 k n := oL (u := l2 false k) (by kernel_rfl) (fun n2 => (fx5 fun _ _ _ _ _ => lcL)) (fun n2 => by kernel_rfl) (fun n2 f h => (congrArg t2 (o3 k n2 f h)))
def t1 (f2 : T2) : T1 := fun x3 m2 m1000000 => (f2 x3 (0 : Int) m2 (List.replicate 4 (0 : Int)) m1000000)
def p1 (k : Nat) : T1 := t1 (p2 k k)
theorem o1 (k : Nat) : l1 true k = p1 k := lfo (b := l1 false k) (fx3 fun _ _ _ => lcR) (by kernel_rfl) (congrArg t1 (o2 k k))
def t0 (f1 : T1) : T0 := fun a => (bindR (s_ref06_reader_see (a.1, ())) fun r1 => (iteB (decide (r1.1 = (94 : Int))) (bindR (s_ref06_reader_take (r1.2.1, ())) fun r2 => (f1 (decide (r1.1 = (94 : Int))) ((0 : Int), ((List.replicate 4 (0 : Int)), ([] : List (N0)))) r2.2.1)) (f1 (decide (r1.1 = (94 : Int))) ((0 : Int), ((List.replicate 4 (0 : Int)), ([] : List (N0)))) r1.2.1)))
def p0 (k : Nat) : T0 := t0 (p1 k)
theorem o0 (k : Nat) : u0 k = p0 k := Eq.trans (by kernel_rfl) (congrArg t0 (o1 k))
end ref06_reader_class
def s_ref06_reader_class (a : D32) : Option D33 := ref06_reader_class.p0 fuel a
def F_ref06_reader_class : FSpec cx.toNm := { ps := [.io t14 m_0], nres := 1, rt := t7, rm := .ro, f := s_ref06_reader_class }
theorem ok_ref06_reader_class : FnOk Try.prog F_ref06_reader_class 52 := fn_of (F := F_ref06_reader_class) (hn := ref06_reader_class.h) (E := ref06_reader_class.E) cxOk (tysT _ _ _) (fs_cons ok_ref06_reader_see (fs_cons ok_ref06_reader_take (fs_cons ok_ref06_but (fs_cons ok_ref06_reader_bound (fs_cons ok_ref05_Put (fs_cons ok_ref06_one fs_nil)))))) follows Try.func52 (by kernel_rfl) (fun a r h => ⟨fuel, (congrFun (ref06_reader_class.o0 fuel) a).trans ((by kernel_rfl : s_ref06_reader_class a = F_ref06_reader_class.f a).trans h)⟩)
namespace ref06_sign
def E : Env cx := { tys := tys, fs := fsOf [(30, F_ref01_Bytes), (35, F_ref06_several), (54, F_ref06_set), (66, F_ref06_one)] }
abbrev R := Option (D21)
def h : Hint := { vs := [0, 2, 3, 4, 5], ret := ([2], [2]), nil := [(4, (.own .ro))], cuts := [(4, ([2, 3, 4, 5], [2]), ([2, 4], [2])), (7, ([2, 4], [2]), ([2, 4], [2]))] }
def W : Pr cx (D21) := ⟨E, h, bodyC Try.f55, fin (S := cx) E Try.f55.results.toList t7 .ro [] []⟩
abbrev T2 := D0 → D2 → R
abbrev T1 := (List UInt8) → D0 → Int → D2 → R
abbrev T0 := D19 → R
def u0 (k : Nat) : T0 := fun a => runOf (S := cx) E h k Try.f55 [.val (.int .i64)] t7 .ro a
abbrev l2 (c : Bool) (k : Nat) : T2 := fun x4 m2 => lfR c W k [1, 1, 1, 1] [] ⟨[(2, vA 2), (4, .v t4 (.own .ro) x4)], [], [(2, ⟨t7, .ro, m2⟩)]⟩
abbrev l1 (c : Bool) (k n1 : Nat) : T1 := fun x3 x4 x5 m2 => lfL c W k [1, 1, 1, 0, 1, 0] [] n1 ⟨[(2, vA 2), (3, vS x3), (4, .v t4 (.own .ro) x4), (5, vI x5)], [], [(2, ⟨t7, .ro, m2⟩)]⟩
def t2 : T2 := fun x4 m2 => (bindR (s_ref06_several ((2 : Int), (x4, ()))) fun r6 => (some (r6.1, ())))
def p2 (k : Nat) : T2 := t2
theorem o2 (k : Nat) : l2 true k = p2 k := lfo (b := l2 false k) (fx2 fun _ _ => lcR) (by kernel_rfl) rfl
def t1 (f1 : T1) (f2 : T2) : T1 := fun x3 x4 x5 m2 => (iteB (decide (x5 < ((List.length x3 : Nat) : Int))) (withinR x5 (List.length x3) fun q2 => (withinR x5 (List.length x3) fun q3 => (bindR (s_ref06_set ((w64 ((byteAt x3 q2))), ((w64 ((byteAt x3 q3))), ()))) fun r4 => (bindR (s_ref06_one (r4.1, ())) fun r5 => (mustR (room x4 ([(pk0 r5.1)] : List (N0))) (f1 x3 (x4 ++ ([(pk0 r5.1)] : List (N0))) (w64 (x5 + (1 : Int))) m2)))))) (f2 x4 m2))
def p1 (k : Nat) : Nat → T1 := iter fun f => t1 f (p2 k)
theorem o1 (k : Nat) : ∀ n, l1 true k n = p1 k n := oL (u := l1 false k) (by kernel_rfl) (fun n1 => (fx4 fun _ _ _ _ => lcL)) (fun n1 => by kernel_rfl) (fun n1 f h => (congr (congrArg t1 h) (o2 k)))
def t0 (f1 : T1) : T0 := fun a => (bindR (s_ref01_Bytes (a.1, ())) fun r1 => (f1 r1.1 ([] : List (N0)) (0 : Int) ((0 : Int), ((List.replicate 4 (0 : Int)), ([] : List (N0))))))
def p0 (k : Nat) : T0 := t0 (p1 k k)
theorem o0 (k : Nat) : u0 k = p0 k := Eq.trans (by kernel_rfl) (congrArg t0 (o1 k k))
end ref06_sign
def s_ref06_sign (a : D19) : Option D21 := ref06_sign.p0 fuel a
def F_ref06_sign : FSpec cx.toNm := { ps := [.val (.int .i64)], nres := 1, rt := t7, rm := .ro, f := s_ref06_sign }
theorem ok_ref06_sign : FnOk Try.prog F_ref06_sign 55 := fn_of (F := F_ref06_sign) (hn := ref06_sign.h) (E := ref06_sign.E) cxOk (tysT _ _ _) (fs_cons ok_ref01_Bytes (fs_cons ok_ref06_several (fs_cons ok_ref06_set (fs_cons ok_ref06_one fs_nil)))) follows Try.func55 (by kernel_rfl) (fun a r h => ⟨fuel, (congrFun (ref06_sign.o0 fuel) a).trans ((by kernel_rfl : s_ref06_sign a = F_ref06_sign.f a).trans h)⟩)
def Fr_ref06_reader_alt (f : D32 → Option D33) : FSpec cx.toNm := { ps := [.io t14 m_0], nres := 1, rt := t7, rm := .ro, f := f }
def Fr_ref06_reader_cat (f : D32 → Option D33) : FSpec cx.toNm := { ps := [.io t14 m_0], nres := 1, rt := t7, rm := .ro, f := f }
def Fr_ref06_reader_rep (f : D32 → Option D33) : FSpec cx.toNm := { ps := [.io t14 m_0], nres := 1, rt := t7, rm := .ro, f := f }
namespace ref06_reader_alt
def E (sf_ref06_reader_alt : D32 → Option D33) (sf_ref06_reader_cat : D32 → Option D33) (sf_ref06_reader_rep : D32 → Option D33) : Env cx := { tys := tys, fs := fsOf [(31, Fr_ref06_reader_cat sf_ref06_reader_cat), (32, F_ref06_reader_see), (33, F_ref06_reader_take), (34, F_ref06_reader_capped), (35, F_ref06_several)] }
abbrev R := Option (D33)
def h : Hint := { vs := [0, 2, 3], ret := ([0, 2], [2, 1000000]), nil := [(3, (.own .ro)), (6, (.own .ro)), (0, m_0)], cuts := [(2, ([0, 2, 3], [2, 1000000]), ([0, 2, 3], [2, 1000000])), (5, ([0, 2, 3], [2, 1000000]), ([0, 2, 3], [2, 1000000]))] }
def W (sf_ref06_reader_alt : D32 → Option D33) (sf_ref06_reader_cat : D32 → Option D33) (sf_ref06_reader_rep : D32 → Option D33) : Pr cx (D33) := ⟨(E sf_ref06_reader_alt sf_ref06_reader_cat sf_ref06_reader_rep), h, bodyC Try.f19, fin (S := cx) (E sf_ref06_reader_alt sf_ref06_reader_cat sf_ref06_reader_rep) Try.f19.results.toList t7 .ro [1000000] [(t14, m_0)]⟩
abbrev T2 := D0 → D2 → D7 → R
abbrev T1 := D0 → D2 → D7 → R
abbrev T0 := D32 → R
def u0 (sf_ref06_reader_alt : D32 → Option D33) (sf_ref06_reader_cat : D32 → Option D33) (sf_ref06_reader_rep : D32 → Option D33) (k : Nat) : T0 := fun a => runOf (S := cx) (E sf_ref06_reader_alt sf_ref06_reader_cat sf_ref06_reader_rep) h k Try.f19 [.io t14 m_0] t7 .ro a
abbrev l2 (sf_ref06_reader_alt : D32 → Option D33) (sf_ref06_reader_cat : D32 → Option D33) (sf_ref06_reader_rep : D32 → Option D33) (c : Bool) (k : Nat) : T2 := fun x3 m2 m1000000 => lfR c (W sf_ref06_reader_alt sf_ref06_reader_cat sf_ref06_reader_rep) k [1, 1, 1] [] ⟨[(0, vA 1000000), (2, vA 2), (3, .v t4 (.own .ro) x3)], [], [(2, ⟨t7, .ro, m2⟩), (1000000, ⟨t14, m_0, m1000000⟩)]⟩
abbrev l1 (sf_ref06_reader_alt : D32 → Option D33) (sf_ref06_reader_cat : D32 → Option D33) (sf_ref06_reader_rep : D32 → Option D33) (c : Bool) (k n1 : Nat) : T1 := fun x3 m2 m1000000 => lfL c (W sf_ref06_reader_alt sf_ref06_reader_cat sf_ref06_reader_rep) k [1, 1, 0, 0] [] n1 ⟨[(0, vA 1000000), (2, vA 2), (3, .v t4 (.own .ro) x3)], [], [(2, ⟨t7, .ro, m2⟩), (1000000, ⟨t14, m_0, m1000000⟩)]⟩
def t2 (sf_ref06_reader_alt : D32 → Option D33) (sf_ref06_reader_cat : D32 → Option D33) (sf_ref06_reader_rep : D32 → Option D33) : T2 := fun x3 m2 m1000000 => (bindR (s_ref06_several ((3 : Int), (x3, ()))) fun r5 => (bindR (s_ref06_reader_capped (m1000000, (r5.1, ()))) fun r6 => (some (r6.1, (r6.2.1, ())))))
def p2 (sf_ref06_reader_alt : D32 → Option D33) (sf_ref06_reader_cat : D32 → Option D33) (sf_ref06_reader_rep : D32 → Option D33) (k : Nat) : T2 := t2 sf_ref06_reader_alt sf_ref06_reader_cat sf_ref06_reader_rep
theorem o2 (sf_ref06_reader_alt : D32 → Option D33) (sf_ref06_reader_cat : D32 → Option D33) (sf_ref06_reader_rep : D32 → Option D33) (k : Nat) : l2 sf_ref06_reader_alt sf_ref06_reader_cat sf_ref06_reader_rep true k = p2 sf_ref06_reader_alt sf_ref06_reader_cat sf_ref06_reader_rep k := lfo (b := l2 sf_ref06_reader_alt sf_ref06_reader_cat sf_ref06_reader_rep false k) (fx3 fun _ _ _ => lcR) (by kernel_rfl) rfl
def t1 (sf_ref06_reader_alt : D32 → Option D33) (sf_ref06_reader_cat : D32 → Option D33) (sf_ref06_reader_rep : D32 → Option D33) (f1 : T1) (f2 : T2) : T1 := fun x3 m2 m1000000 => (bindR (s_ref06_reader_see (m1000000, ())) fun r2 => (iteB (decide (r2.1 = (124 : Int))) (bindR (s_ref06_reader_take (r2.2.1, ())) fun r3 => (bindR (sf_ref06_reader_cat (r3.2.1, ())) fun r4 => (mustR (room x3 ([(pk0 r4.1)] : List (N0))) (f1 (x3 ++ ([(pk0 r4.1)] : List (N0))) m2 r4.2.1)))) (f2 x3 m2 r2.2.1)))
def p1 (sf_ref06_reader_alt : D32 → Option D33) (sf_ref06_reader_cat : D32 → Option D33) (sf_ref06_reader_rep : D32 → Option D33) (k : Nat) : Nat → T1 := iter fun f => t1 sf_ref06_reader_alt sf_ref06_reader_cat sf_ref06_reader_rep f (p2 sf_ref06_reader_alt sf_ref06_reader_cat sf_ref06_reader_rep k)
theorem o1 (sf_ref06_reader_alt : D32 → Option D33) (sf_ref06_reader_cat : D32 → Option D33) (sf_ref06_reader_rep : D32 → Option D33) (k : Nat) : ∀ n, l1 sf_ref06_reader_alt sf_ref06_reader_cat sf_ref06_reader_rep true k n = p1 sf_ref06_reader_alt sf_ref06_reader_cat sf_ref06_reader_rep k n := oL (u := l1 sf_ref06_reader_alt sf_ref06_reader_cat sf_ref06_reader_rep false k) (by kernel_rfl) (fun n1 => (fx3 fun _ _ _ => lcL)) (fun n1 => by kernel_rfl) (fun n1 f h => (congr (congrArg (t1 sf_ref06_reader_alt sf_ref06_reader_cat sf_ref06_reader_rep) h) (o2 sf_ref06_reader_alt sf_ref06_reader_cat sf_ref06_reader_rep k)))
def t0 (sf_ref06_reader_alt : D32 → Option D33) (sf_ref06_reader_cat : D32 → Option D33) (sf_ref06_reader_rep : D32 → Option D33) (f1 : T1) : T0 := fun a => (bindR (sf_ref06_reader_cat (a.1, ())) fun r1 => (f1 ([(pk0 r1.1)] : List (N0)) ((0 : Int), ((List.replicate 4 (0 : Int)), ([] : List (N0)))) r1.2.1))
def p0 (sf_ref06_reader_alt : D32 → Option D33) (sf_ref06_reader_cat : D32 → Option D33) (sf_ref06_reader_rep : D32 → Option D33) (k : Nat) : T0 := t0 sf_ref06_reader_alt sf_ref06_reader_cat sf_ref06_reader_rep (p1 sf_ref06_reader_alt sf_ref06_reader_cat sf_ref06_reader_rep k k)
theorem o0 (sf_ref06_reader_alt : D32 → Option D33) (sf_ref06_reader_cat : D32 → Option D33) (sf_ref06_reader_rep : D32 → Option D33) (k : Nat) : u0 sf_ref06_reader_alt sf_ref06_reader_cat sf_ref06_reader_rep k = p0 sf_ref06_reader_alt sf_ref06_reader_cat sf_ref06_reader_rep k := Eq.trans (by kernel_rfl) (congrArg (t0 sf_ref06_reader_alt sf_ref06_reader_cat sf_ref06_reader_rep) (o1 sf_ref06_reader_alt sf_ref06_reader_cat sf_ref06_reader_rep k k))
end ref06_reader_alt
namespace ref06_reader_cat
def E (sf_ref06_reader_alt : D32 → Option D33) (sf_ref06_reader_cat : D32 → Option D33) (sf_ref06_reader_rep : D32 → Option D33) : Env cx := { tys := tys, fs := fsOf [(32, F_ref06_reader_see), (34, F_ref06_reader_capped), (35, F_ref06_several), (47, Fr_ref06_reader_rep sf_ref06_reader_rep)] }
abbrev R := Option (D33)
def h : Hint := { vs := [0, 2, 3], ret := ([0, 2], [2, 1000000]), nil := [(3, (.own .ro)), (0, m_0)], cuts := [(2, ([0, 2, 3], [2, 1000000]), ([0, 2, 3], [2, 1000000])), (3, ([0, 2, 3], [2, 1000000]), ([0, 2, 3], [2, 1000000])), (4, ([0, 2, 3], [2, 1000000]), ([0, 2, 3], [2, 1000000])), (1000000, ([0, 2, 3, 16], [2, 1000000]), ([0, 2, 3], [2, 1000000]))] }
def W (sf_ref06_reader_alt : D32 → Option D33) (sf_ref06_reader_cat : D32 → Option D33) (sf_ref06_reader_rep : D32 → Option D33) : Pr cx (D33) := ⟨(E sf_ref06_reader_alt sf_ref06_reader_cat sf_ref06_reader_rep), h, bodyC Try.f31, fin (S := cx) (E sf_ref06_reader_alt sf_ref06_reader_cat sf_ref06_reader_rep) Try.f31.results.toList t7 .ro [1000000] [(t14, m_0)]⟩
abbrev T3 := D0 → D2 → D7 → R
abbrev T4 := D0 → D2 → D7 → R
abbrev T2 := D0 → Bool → D2 → D7 → R
abbrev T1 := D0 → D2 → D7 → R
abbrev T0 := D32 → R
def u0 (sf_ref06_reader_alt : D32 → Option D33) (sf_ref06_reader_cat : D32 → Option D33) (sf_ref06_reader_rep : D32 → Option D33) (k : Nat) : T0 := fun a => runOf (S := cx) (E sf_ref06_reader_alt sf_ref06_reader_cat sf_ref06_reader_rep) h k Try.f31 [.io t14 m_0] t7 .ro a
abbrev l3 (sf_ref06_reader_alt : D32 → Option D33) (sf_ref06_reader_cat : D32 → Option D33) (sf_ref06_reader_rep : D32 → Option D33) (c : Bool) (k n1 : Nat) : T3 := fun x3 m2 m1000000 => lfR c (W sf_ref06_reader_alt sf_ref06_reader_cat sf_ref06_reader_rep) k [1, 1, 0, 0, 0, 1] [n1] ⟨[(0, vA 1000000), (2, vA 2), (3, .v t4 (.own .ro) x3)], [], [(2, ⟨t7, .ro, m2⟩), (1000000, ⟨t14, m_0, m1000000⟩)]⟩
abbrev l4 (sf_ref06_reader_alt : D32 → Option D33) (sf_ref06_reader_cat : D32 → Option D33) (sf_ref06_reader_rep : D32 → Option D33) (c : Bool) (k : Nat) : T4 := fun x3 m2 m1000000 => lfR c (W sf_ref06_reader_alt sf_ref06_reader_cat sf_ref06_reader_rep) k [1, 1, 1] [] ⟨[(0, vA 1000000), (2, vA 2), (3, .v t4 (.own .ro) x3)], [], [(2, ⟨t7, .ro, m2⟩), (1000000, ⟨t14, m_0, m1000000⟩)]⟩
abbrev l2 (sf_ref06_reader_alt : D32 → Option D33) (sf_ref06_reader_cat : D32 → Option D33) (sf_ref06_reader_rep : D32 → Option D33) (c : Bool) (k n1 : Nat) : T2 := fun x3 x16 m2 m1000000 => lfR c (W sf_ref06_reader_alt sf_ref06_reader_cat sf_ref06_reader_rep) k [1, 1, 0, 0, 0, 0, 1] [n1] ⟨[(0, vA 1000000), (2, vA 2), (3, .v t4 (.own .ro) x3), (16, vB x16)], [], [(2, ⟨t7, .ro, m2⟩), (1000000, ⟨t14, m_0, m1000000⟩)]⟩
abbrev l1 (sf_ref06_reader_alt : D32 → Option D33) (sf_ref06_reader_cat : D32 → Option D33) (sf_ref06_reader_rep : D32 → Option D33) (c : Bool) (k n1 : Nat) : T1 := fun x3 m2 m1000000 => lfL c (W sf_ref06_reader_alt sf_ref06_reader_cat sf_ref06_reader_rep) k [1, 1, 0, 0] [] n1 ⟨[(0, vA 1000000), (2, vA 2), (3, .v t4 (.own .ro) x3)], [], [(2, ⟨t7, .ro, m2⟩), (1000000, ⟨t14, m_0, m1000000⟩)]⟩
def t3 (sf_ref06_reader_alt : D32 → Option D33) (sf_ref06_reader_cat : D32 → Option D33) (sf_ref06_reader_rep : D32 → Option D33) (f1 : T1) : T3 := fun x3 m2 m1000000 => (bindR (sf_ref06_reader_rep (m1000000, ())) fun r4 => (mustR (room x3 ([(pk0 r4.1)] : List (N0))) (f1 (x3 ++ ([(pk0 r4.1)] : List (N0))) m2 r4.2.1)))
def p3 (sf_ref06_reader_alt : D32 → Option D33) (sf_ref06_reader_cat : D32 → Option D33) (sf_ref06_reader_rep : D32 → Option D33) (k : Nat) (a1 : T1) : T3 := t3 sf_ref06_reader_alt sf_ref06_reader_cat sf_ref06_reader_rep a1
theorem o3 (sf_ref06_reader_alt : D32 → Option D33) (sf_ref06_reader_cat : D32 → Option D33) (sf_ref06_reader_rep : D32 → Option D33) (k n1 : Nat) (a1 : T1) (h1 : l1 sf_ref06_reader_alt sf_ref06_reader_cat sf_ref06_reader_rep true k n1 = a1) : l3 sf_ref06_reader_alt sf_ref06_reader_cat sf_ref06_reader_rep true k n1 = p3 sf_ref06_reader_alt sf_ref06_reader_cat sf_ref06_reader_rep k a1 := lfo (b := l3 sf_ref06_reader_alt sf_ref06_reader_cat sf_ref06_reader_rep false k n1) (fx3 fun _ _ _ => lcR) (by kernel_rfl) (congrArg (t3 sf_ref06_reader_alt sf_ref06_reader_cat sf_ref06_reader_rep) h1)
def t4 (sf_ref06_reader_alt : D32 → Option D33) (sf_ref06_reader_cat : D32 → Option D33) (sf_ref06_reader_rep : D32 → Option D33) : T4 := fun x3 m2 m1000000 => (iteB (decide (((List.length x3 : Nat) : Int) = (0 : Int))) (some (((0 : Int), ((List.replicate 4 (0 : Int)), ([] : List (N0)))), (m1000000, ()))) (bindR (s_ref06_several ((2 : Int), (x3, ()))) fun r5 => (bindR (s_ref06_reader_capped (m1000000, (r5.1, ()))) fun r6 => (some (r6.1, (r6.2.1, ()))))))
def p4 (sf_ref06_reader_alt : D32 → Option D33) (sf_ref06_reader_cat : D32 → Option D33) (sf_ref06_reader_rep : D32 → Option D33) (k : Nat) : T4 := t4 sf_ref06_reader_alt sf_ref06_reader_cat sf_ref06_reader_rep
theorem o4 (sf_ref06_reader_alt : D32 → Option D33) (sf_ref06_reader_cat : D32 → Option D33) (sf_ref06_reader_rep : D32 → Option D33) (k : Nat) : l4 sf_ref06_reader_alt sf_ref06_reader_cat sf_ref06_reader_rep true k = p4 sf_ref06_reader_alt sf_ref06_reader_cat sf_ref06_reader_rep k := lfo (b := l4 sf_ref06_reader_alt sf_ref06_reader_cat sf_ref06_reader_rep false k) (fx3 fun _ _ _ => lcR) (by kernel_rfl) rfl
def t2 (sf_ref06_reader_alt : D32 → Option D33) (sf_ref06_reader_cat : D32 → Option D33) (sf_ref06_reader_rep : D32 → Option D33) (f3 : T3) (f4 : T4) : T2 := fun x3 x16 m2 m1000000 => (iteB x16 (f3 x3 m2 m1000000) (f4 x3 m2 m1000000))
def p2 (sf_ref06_reader_alt : D32 → Option D33) (sf_ref06_reader_cat : D32 → Option D33) (sf_ref06_reader_rep : D32 → Option D33) (k : Nat) (a1 : T1) : T2 := t2 sf_ref06_reader_alt sf_ref06_reader_cat sf_ref06_reader_rep (p3 sf_ref06_reader_alt sf_ref06_reader_cat sf_ref06_reader_rep k a1) (p4 sf_ref06_reader_alt sf_ref06_reader_cat sf_ref06_reader_rep k)
theorem o2 (sf_ref06_reader_alt : D32 → Option D33) (sf_ref06_reader_cat : D32 → Option D33) (sf_ref06_reader_rep : D32 → Option D33) (k n1 : Nat) (a1 : T1) (h1 : l1 sf_ref06_reader_alt sf_ref06_reader_cat sf_ref06_reader_rep true k n1 = a1) : l2 sf_ref06_reader_alt sf_ref06_reader_cat sf_ref06_reader_rep true k n1 = p2 sf_ref06_reader_alt sf_ref06_reader_cat sf_ref06_reader_rep k a1 := lfo (b := l2 sf_ref06_reader_alt sf_ref06_reader_cat sf_ref06_reader_rep false k n1) (fx4 fun _ _ _ _ => lcR) (by kernel_rfl) (by have h := (congr (congrArg (t2 sf_ref06_reader_alt sf_ref06_reader_cat sf_ref06_reader_rep) (o3 sf_ref06_reader_alt sf_ref06_reader_cat sf_ref06_reader_rep k n1 a1 h1)) (o4 sf_ref06_reader_alt sf_ref06_reader_cat sf_ref06_reader_rep k)); exact h)
def t1 (sf_ref06_reader_alt : D32 → Option D33) (sf_ref06_reader_cat : D32 → Option D33) (sf_ref06_reader_rep : D32 → Option D33) (f2 : T2) : T1 := fun x3 m2 m1000000 => (bindR (s_ref06_reader_see (m1000000, ())) fun r1 => (iteB (decide ((0 : Int) ≤ r1.1)) (bindR (s_ref06_reader_see (r1.2.1, ())) fun r2 => (iteB (!decide (r2.1 = (124 : Int))) (bindR (s_ref06_reader_see (r2.2.1, ())) fun r3 => (f2 x3 (!decide (r3.1 = (41 : Int))) m2 r3.2.1)) (f2 x3 false m2 r2.2.1))) (f2 x3 false m2 r1.2.1)))
def p1 (sf_ref06_reader_alt : D32 → Option D33) (sf_ref06_reader_cat : D32 → Option D33) (sf_ref06_reader_rep : D32 → Option D33) (k : Nat) : Nat → T1 := iter fun f => t1 sf_ref06_reader_alt sf_ref06_reader_cat sf_ref06_reader_rep (p2 sf_ref06_reader_alt sf_ref06_reader_cat sf_ref06_reader_rep k f)
theorem o1 (sf_ref06_reader_alt : D32 → Option D33) (sf_ref06_reader_cat : D32 → Option D33) (sf_ref06_reader_rep : D32 → Option D33) (k : Nat) : ∀ n, l1 sf_ref06_reader_alt sf_ref06_reader_cat sf_ref06_reader_rep true k n = p1 sf_ref06_reader_alt sf_ref06_reader_cat sf_ref06_reader_rep k n := oL (u := l1 sf_ref06_reader_alt sf_ref06_reader_cat sf_ref06_reader_rep false k) (by kernel_rfl) (fun n1 => (fx3 fun _ _ _ => lcL)) (fun n1 => by kernel_rfl) (fun n1 f h => (congrArg (t1 sf_ref06_reader_alt sf_ref06_reader_cat sf_ref06_reader_rep) (o2 sf_ref06_reader_alt sf_ref06_reader_cat sf_ref06_reader_rep k n1 f h)))
def t0 (sf_ref06_reader_alt : D32 → Option D33) (sf_ref06_reader_cat : D32 → Option D33) (sf_ref06_reader_rep : D32 → Option D33) (f1 : T1) : T0 := fun a => (f1 ([] : List (N0)) ((0 : Int), ((List.replicate 4 (0 : Int)), ([] : List (N0)))) a.1)
def p0 (sf_ref06_reader_alt : D32 → Option D33) (sf_ref06_reader_cat : D32 → Option D33) (sf_ref06_reader_rep : D32 → Option D33) (k : Nat) : T0 := t0 sf_ref06_reader_alt sf_ref06_reader_cat sf_ref06_reader_rep (p1 sf_ref06_reader_alt sf_ref06_reader_cat sf_ref06_reader_rep k k)
theorem o0 (sf_ref06_reader_alt : D32 → Option D33) (sf_ref06_reader_cat : D32 → Option D33) (sf_ref06_reader_rep : D32 → Option D33) (k : Nat) : u0 sf_ref06_reader_alt sf_ref06_reader_cat sf_ref06_reader_rep k = p0 sf_ref06_reader_alt sf_ref06_reader_cat sf_ref06_reader_rep k := Eq.trans (by kernel_rfl) (congrArg (t0 sf_ref06_reader_alt sf_ref06_reader_cat sf_ref06_reader_rep) (o1 sf_ref06_reader_alt sf_ref06_reader_cat sf_ref06_reader_rep k k))
end ref06_reader_cat
namespace ref06_reader_rep
def E (sf_ref06_reader_alt : D32 → Option D33) (sf_ref06_reader_cat : D32 → Option D33) (sf_ref06_reader_rep : D32 → Option D33) : Env cx := { tys := tys, fs := fsOf [(19, Fr_ref06_reader_alt sf_ref06_reader_alt), (32, F_ref06_reader_see), (33, F_ref06_reader_take), (34, F_ref06_reader_capped), (52, F_ref06_reader_class), (53, F_ref06_but), (54, F_ref06_set), (55, F_ref06_sign), (56, F_ref06_reader_escape), (57, F_ref06_special)] }
abbrev R := Option (D33)
def h : Hint := { vs := [0, 2, 3, 4], ret := ([0, 2], [2, 4, 1000000]), nil := [(0, m_0)], cuts := [(15, ([0, 2, 3, 4], [2, 4, 1000000]), ([0, 2, 4], [2, 4, 1000000])), (16, ([0, 2, 4], [2, 4, 1000000]), ([0, 2, 4], [2, 4, 1000000])), (25, ([0, 2, 4], [2, 4, 1000000]), ([0, 2, 4], [2, 4, 1000000])), (27, ([0, 2, 4], [2, 4, 1000000]), ([0, 2, 4], [2, 4, 1000000]))] }
def W (sf_ref06_reader_alt : D32 → Option D33) (sf_ref06_reader_cat : D32 → Option D33) (sf_ref06_reader_rep : D32 → Option D33) : Pr cx (D33) := ⟨(E sf_ref06_reader_alt sf_ref06_reader_cat sf_ref06_reader_rep), h, bodyC Try.f47, fin (S := cx) (E sf_ref06_reader_alt sf_ref06_reader_cat sf_ref06_reader_rep) Try.f47.results.toList t7 .ro [1000000] [(t14, m_0)]⟩
abbrev T4 := D2 → D2 → D7 → R
abbrev T5 := D2 → D2 → D7 → R
abbrev T3 := D2 → D2 → D7 → R
abbrev T1 := D2 → D2 → D7 → R
abbrev T2 := Int → D2 → D2 → D7 → R
abbrev T0 := D32 → R
def u0 (sf_ref06_reader_alt : D32 → Option D33) (sf_ref06_reader_cat : D32 → Option D33) (sf_ref06_reader_rep : D32 → Option D33) (k : Nat) : T0 := fun a => runOf (S := cx) (E sf_ref06_reader_alt sf_ref06_reader_cat sf_ref06_reader_rep) h k Try.f47 [.io t14 m_0] t7 .ro a
abbrev l4 (sf_ref06_reader_alt : D32 → Option D33) (sf_ref06_reader_cat : D32 → Option D33) (sf_ref06_reader_rep : D32 → Option D33) (c : Bool) (k n3 : Nat) : T4 := fun m2 m4 m1000000 => lfR c (W sf_ref06_reader_alt sf_ref06_reader_cat sf_ref06_reader_rep) k [1, 1, 1, 1, 0, 0, 0, 1, 0, 1, 1] [n3] ⟨[(0, vA 1000000), (2, vA 2), (4, vA 4)], [], [(2, ⟨t7, .ro, m2⟩), (4, ⟨t7, m_3, m4⟩), (1000000, ⟨t14, m_0, m1000000⟩)]⟩
abbrev l5 (sf_ref06_reader_alt : D32 → Option D33) (sf_ref06_reader_cat : D32 → Option D33) (sf_ref06_reader_rep : D32 → Option D33) (c : Bool) (k : Nat) : T5 := fun m2 m4 m1000000 => lfR c (W sf_ref06_reader_alt sf_ref06_reader_cat sf_ref06_reader_rep) k [1, 1, 1, 1, 1] [] ⟨[(0, vA 1000000), (2, vA 2), (4, vA 4)], [], [(2, ⟨t7, .ro, m2⟩), (4, ⟨t7, .ro, m4⟩), (1000000, ⟨t14, m_0, m1000000⟩)]⟩
abbrev l3 (sf_ref06_reader_alt : D32 → Option D33) (sf_ref06_reader_cat : D32 → Option D33) (sf_ref06_reader_rep : D32 → Option D33) (c : Bool) (k n3 : Nat) : T3 := fun m2 m4 m1000000 => lfL c (W sf_ref06_reader_alt sf_ref06_reader_cat sf_ref06_reader_rep) k [1, 1, 1, 1, 0, 0] [] n3 ⟨[(0, vA 1000000), (2, vA 2), (4, vA 4)], [], [(2, ⟨t7, .ro, m2⟩), (4, ⟨t7, .ro, m4⟩), (1000000, ⟨t14, m_0, m1000000⟩)]⟩
abbrev l1 (sf_ref06_reader_alt : D32 → Option D33) (sf_ref06_reader_cat : D32 → Option D33) (sf_ref06_reader_rep : D32 → Option D33) (c : Bool) (k : Nat) : T1 := fun m2 m4 m1000000 => lfR c (W sf_ref06_reader_alt sf_ref06_reader_cat sf_ref06_reader_rep) k [1, 1, 1, 1] [] ⟨[(0, vA 1000000), (2, vA 2), (4, vA 4)], [], [(2, ⟨t7, .ro, m2⟩), (4, ⟨t7, .ro, m4⟩), (1000000, ⟨t14, m_0, m1000000⟩)]⟩
abbrev l2 (sf_ref06_reader_alt : D32 → Option D33) (sf_ref06_reader_cat : D32 → Option D33) (sf_ref06_reader_rep : D32 → Option D33) (c : Bool) (k : Nat) : T2 := fun x3 m2 m4 m1000000 => lfR c (W sf_ref06_reader_alt sf_ref06_reader_cat sf_ref06_reader_rep) k [1, 1, 1, 0, 1, 1, 1, 1, 1, 1, 1, 1, 1] [] ⟨[(0, vA 1000000), (2, vA 2), (3, vI x3), (4, vA 4)], [], [(2, ⟨t7, .ro, m2⟩), (4, ⟨t7, .ro, m4⟩), (1000000, ⟨t14, m_0, m1000000⟩)]⟩
def t4 (sf_ref06_reader_alt : D32 → Option D33) (sf_ref06_reader_cat : D32 → Option D33) (sf_ref06_reader_rep : D32 → Option D33) (f3 : T3) : T4 := fun m2 m4 m1000000 => (bindR (s_ref06_reader_take (m1000000, ())) fun r11 => (bindR (s_ref06_reader_capped (r11.2.1, (m4, ()))) fun r12 => (f3 m2 r12.1 r12.2.1)))
def p4 (sf_ref06_reader_alt : D32 → Option D33) (sf_ref06_reader_cat : D32 → Option D33) (sf_ref06_reader_rep : D32 → Option D33) (k : Nat) (a3 : T3) : T4 := t4 sf_ref06_reader_alt sf_ref06_reader_cat sf_ref06_reader_rep a3
theorem o4 (sf_ref06_reader_alt : D32 → Option D33) (sf_ref06_reader_cat : D32 → Option D33) (sf_ref06_reader_rep : D32 → Option D33) (k n3 : Nat) (a3 : T3) (h3 : l3 sf_ref06_reader_alt sf_ref06_reader_cat sf_ref06_reader_rep true k n3 = a3) : l4 sf_ref06_reader_alt sf_ref06_reader_cat sf_ref06_reader_rep true k n3 = p4 sf_ref06_reader_alt sf_ref06_reader_cat sf_ref06_reader_rep k a3 := lfo (b := l4 sf_ref06_reader_alt sf_ref06_reader_cat sf_ref06_reader_rep false k n3) (fx3 fun _ _ _ => lcR) (by kernel_rfl) (congrArg (t4 sf_ref06_reader_alt sf_ref06_reader_cat sf_ref06_reader_rep) h3)
def t5 (sf_ref06_reader_alt : D32 → Option D33) (sf_ref06_reader_cat : D32 → Option D33) (sf_ref06_reader_rep : D32 → Option D33) : T5 := fun m2 m4 m1000000 => (some (m4, (m1000000, ())))
def p5 (sf_ref06_reader_alt : D32 → Option D33) (sf_ref06_reader_cat : D32 → Option D33) (sf_ref06_reader_rep : D32 → Option D33) (k : Nat) : T5 := t5 sf_ref06_reader_alt sf_ref06_reader_cat sf_ref06_reader_rep
theorem o5 (sf_ref06_reader_alt : D32 → Option D33) (sf_ref06_reader_cat : D32 → Option D33) (sf_ref06_reader_rep : D32 → Option D33) (k : Nat) : l5 sf_ref06_reader_alt sf_ref06_reader_cat sf_ref06_reader_rep true k = p5 sf_ref06_reader_alt sf_ref06_reader_cat sf_ref06_reader_rep k := lfo (b := l5 sf_ref06_reader_alt sf_ref06_reader_cat sf_ref06_reader_rep false k) (fx3 fun _ _ _ => lcR) (by kernel_rfl) rfl
def t3 (sf_ref06_reader_alt : D32 → Option D33) (sf_ref06_reader_cat : D32 → Option D33) (sf_ref06_reader_rep : D32 → Option D33) (f4 : T4) (f5 : T5) : T3 := fun m2 m4 m1000000 => (iteB (notB m1000000.2.2.1) (bindR (s_ref06_reader_see (m1000000, ())) fun r10 => (iteB (decide (r10.1 = (42 : Int))) (f4 m2 ((4 : Int), ((List.replicate 4 (0 : Int)), ([(pk0 m4)] : List (N0)))) r10.2.1) (iteB (decide (r10.1 = (43 : Int))) (f4 m2 ((2 : Int), ((List.replicate 4 (0 : Int)), ([(pk0 m4), (pk0 ((4 : Int), ((List.replicate 4 (0 : Int)), ([(pk0 m4)] : List (N0)))))] : List (N0)))) r10.2.1) (iteB (decide (r10.1 = (63 : Int))) (f4 m2 ((3 : Int), ((List.replicate 4 (0 : Int)), ([(pk0 m4), (pk0 ((0 : Int), ((List.replicate 4 (0 : Int)), ([] : List (N0)))))] : List (N0)))) r10.2.1) (some (m4, (r10.2.1, ()))))))) (f5 m2 m4 m1000000))
def p3 (sf_ref06_reader_alt : D32 → Option D33) (sf_ref06_reader_cat : D32 → Option D33) (sf_ref06_reader_rep : D32 → Option D33) (k : Nat) : Nat → T3 := iter fun f => t3 sf_ref06_reader_alt sf_ref06_reader_cat sf_ref06_reader_rep (p4 sf_ref06_reader_alt sf_ref06_reader_cat sf_ref06_reader_rep k f) (p5 sf_ref06_reader_alt sf_ref06_reader_cat sf_ref06_reader_rep k)
theorem o3 (sf_ref06_reader_alt : D32 → Option D33) (sf_ref06_reader_cat : D32 → Option D33) (sf_ref06_reader_rep : D32 → Option D33) (k : Nat) : ∀ n, l3 sf_ref06_reader_alt sf_ref06_reader_cat sf_ref06_reader_rep true k n = p3 sf_ref06_reader_alt sf_ref06_reader_cat sf_ref06_reader_rep k n := oL (u := l3 sf_ref06_reader_alt sf_ref06_reader_cat sf_ref06_reader_rep false k) (by kernel_rfl) (fun n3 => (fx3 fun _ _ _ => lcL)) (fun n3 => by kernel_rfl) (fun n3 f h => (congr (congrArg (t3 sf_ref06_reader_alt sf_ref06_reader_cat sf_ref06_reader_rep) (o4 sf_ref06_reader_alt sf_ref06_reader_cat sf_ref06_reader_rep k n3 f h)) (o5 sf_ref06_reader_alt sf_ref06_reader_cat sf_ref06_reader_rep k)))
def t1 (sf_ref06_reader_alt : D32 → Option D33) (sf_ref06_reader_cat : D32 → Option D33) (sf_ref06_reader_rep : D32 → Option D33) (f3 : T3) : T1 := fun m2 m4 m1000000 => (f3 m2 m4 m1000000)
def p1 (sf_ref06_reader_alt : D32 → Option D33) (sf_ref06_reader_cat : D32 → Option D33) (sf_ref06_reader_rep : D32 → Option D33) (k : Nat) : T1 := t1 sf_ref06_reader_alt sf_ref06_reader_cat sf_ref06_reader_rep (p3 sf_ref06_reader_alt sf_ref06_reader_cat sf_ref06_reader_rep k k)
theorem o1 (sf_ref06_reader_alt : D32 → Option D33) (sf_ref06_reader_cat : D32 → Option D33) (sf_ref06_reader_rep : D32 → Option D33) (k : Nat) : l1 sf_ref06_reader_alt sf_ref06_reader_cat sf_ref06_reader_rep true k = p1 sf_ref06_reader_alt sf_ref06_reader_cat sf_ref06_reader_rep k := lfo (b := l1 sf_ref06_reader_alt sf_ref06_reader_cat sf_ref06_reader_rep false k) (fx3 fun _ _ _ => lcR) (by kernel_rfl) (congrArg (t1 sf_ref06_reader_alt sf_ref06_reader_cat sf_ref06_reader_rep) (o3 sf_ref06_reader_alt sf_ref06_reader_cat sf_ref06_reader_rep k k))
def t2 (sf_ref06_reader_alt : D32 → Option D33) (sf_ref06_reader_cat : D32 → Option D33) (sf_ref06_reader_rep : D32 → Option D33) (f1 : T1) : T2 := fun x3 m2 m4 m1000000 => (bindR (s_ref06_sign (x3, ())) fun r13 => (f1 m2 r13.1 m1000000))
def p2 (sf_ref06_reader_alt : D32 → Option D33) (sf_ref06_reader_cat : D32 → Option D33) (sf_ref06_reader_rep : D32 → Option D33) (k : Nat) : T2 := t2 sf_ref06_reader_alt sf_ref06_reader_cat sf_ref06_reader_rep (p1 sf_ref06_reader_alt sf_ref06_reader_cat sf_ref06_reader_rep k)
theorem o2 (sf_ref06_reader_alt : D32 → Option D33) (sf_ref06_reader_cat : D32 → Option D33) (sf_ref06_reader_rep : D32 → Option D33) (k : Nat) : l2 sf_ref06_reader_alt sf_ref06_reader_cat sf_ref06_reader_rep true k = p2 sf_ref06_reader_alt sf_ref06_reader_cat sf_ref06_reader_rep k := lfo (b := l2 sf_ref06_reader_alt sf_ref06_reader_cat sf_ref06_reader_rep false k) (fx4 fun _ _ _ _ => lcR) (by kernel_rfl) (congrArg (t2 sf_ref06_reader_alt sf_ref06_reader_cat sf_ref06_reader_rep) (o1 sf_ref06_reader_alt sf_ref06_reader_cat sf_ref06_reader_rep k))
def t0 (sf_ref06_reader_alt : D32 → Option D33) (sf_ref06_reader_cat : D32 → Option D33) (sf_ref06_reader_rep : D32 → Option D33) (f1 : T1) (f2 : T2) : T0 := fun a => (bindR (s_ref06_reader_take (a.1, ())) fun r1 => (iteB (decide (r1.1 = (40 : Int))) (bindR (sf_ref06_reader_alt (r1.2.1, ())) fun r2 => (bindR (s_ref06_reader_take (r2.2.1, ())) fun r3 => (iteB (!decide (r3.1 = (41 : Int))) (f1 ((0 : Int), ((List.replicate 4 (0 : Int)), ([] : List (N0)))) r2.1 (r3.2.1.1, (r3.2.1.2.1, (true, r3.2.1.2.2.2)))) (f1 ((0 : Int), ((List.replicate 4 (0 : Int)), ([] : List (N0)))) r2.1 r3.2.1)))) (iteB (decide (r1.1 = (91 : Int))) (bindR (s_ref06_reader_class (r1.2.1, ())) fun r4 => (f1 ((0 : Int), ((List.replicate 4 (0 : Int)), ([] : List (N0)))) r4.1 r4.2.1)) (iteB (decide (r1.1 = (46 : Int))) (bindR (s_ref06_set ((10 : Int), ((10 : Int), ()))) fun r5 => (bindR (s_ref06_but (r5.1, ())) fun r6 => (f1 ((0 : Int), ((List.replicate 4 (0 : Int)), ([] : List (N0)))) r6.1 r1.2.1))) (iteB (decide (r1.1 = (92 : Int))) (bindR (s_ref06_reader_escape (r1.2.1, ())) fun r7 => (bindR (s_ref06_sign (r7.1, ())) fun r8 => (f1 ((0 : Int), ((List.replicate 4 (0 : Int)), ([] : List (N0)))) r8.1 r7.2.1))) (bindR (s_ref06_special (r1.1, ())) fun r9 => (iteB r9.1 (f2 r1.1 ((0 : Int), ((List.replicate 4 (0 : Int)), ([] : List (N0)))) ((0 : Int), ((List.replicate 4 (0 : Int)), ([] : List (N0)))) (r1.2.1.1, (r1.2.1.2.1, (true, r1.2.1.2.2.2)))) (f2 r1.1 ((0 : Int), ((List.replicate 4 (0 : Int)), ([] : List (N0)))) ((0 : Int), ((List.replicate 4 (0 : Int)), ([] : List (N0)))) r1.2.1))))))))
def p0 (sf_ref06_reader_alt : D32 → Option D33) (sf_ref06_reader_cat : D32 → Option D33) (sf_ref06_reader_rep : D32 → Option D33) (k : Nat) : T0 := t0 sf_ref06_reader_alt sf_ref06_reader_cat sf_ref06_reader_rep (p1 sf_ref06_reader_alt sf_ref06_reader_cat sf_ref06_reader_rep k) (p2 sf_ref06_reader_alt sf_ref06_reader_cat sf_ref06_reader_rep k)
theorem o0 (sf_ref06_reader_alt : D32 → Option D33) (sf_ref06_reader_cat : D32 → Option D33) (sf_ref06_reader_rep : D32 → Option D33) (k : Nat) : u0 sf_ref06_reader_alt sf_ref06_reader_cat sf_ref06_reader_rep k = p0 sf_ref06_reader_alt sf_ref06_reader_cat sf_ref06_reader_rep k := Eq.trans (by kernel_rfl) (by have h := (congr (congrArg (t0 sf_ref06_reader_alt sf_ref06_reader_cat sf_ref06_reader_rep) (o1 sf_ref06_reader_alt sf_ref06_reader_cat sf_ref06_reader_rep k)) (o2 sf_ref06_reader_alt sf_ref06_reader_cat sf_ref06_reader_rep k)); exact h)
end ref06_reader_rep
mutual
def r_ref06_reader_alt : Nat → D32 → Option D33
  | 0, _ => none
  | n + 1, a => ref06_reader_alt.p0 (r_ref06_reader_alt n) (r_ref06_reader_cat n) (r_ref06_reader_rep n) fuel a
def r_ref06_reader_cat : Nat → D32 → Option D33
  | 0, _ => none
  | n + 1, a => ref06_reader_cat.p0 (r_ref06_reader_alt n) (r_ref06_reader_cat n) (r_ref06_reader_rep n) fuel a
def r_ref06_reader_rep : Nat → D32 → Option D33
  | 0, _ => none
  | n + 1, a => ref06_reader_rep.p0 (r_ref06_reader_alt n) (r_ref06_reader_cat n) (r_ref06_reader_rep n) fuel a
end
theorem okr_ref06_reader_alt : ∀ n, FnOk Try.prog (Fr_ref06_reader_alt (r_ref06_reader_alt n)) 19 ∧ FnOk Try.prog (Fr_ref06_reader_cat (r_ref06_reader_cat n)) 31 ∧ FnOk Try.prog (Fr_ref06_reader_rep (r_ref06_reader_rep n)) 47
  | 0 => ⟨fn_none (fun _ => rfl), fn_none (fun _ => rfl), fn_none (fun _ => rfl)⟩
  | n + 1 => ⟨fn_of (F := Fr_ref06_reader_alt (r_ref06_reader_alt (n + 1))) (hn := ref06_reader_alt.h) (E := ref06_reader_alt.E (r_ref06_reader_alt n) (r_ref06_reader_cat n) (r_ref06_reader_rep n)) cxOk (tysT _ _ _) (fs_cons (okr_ref06_reader_alt n).2.1 (fs_cons ok_ref06_reader_see (fs_cons ok_ref06_reader_take (fs_cons ok_ref06_reader_capped (fs_cons ok_ref06_several fs_nil))))) follows Try.func19 (by kernel_rfl) (fun a r h => ⟨fuel, Eq.trans (congrFun (ref06_reader_alt.o0 (r_ref06_reader_alt n) (r_ref06_reader_cat n) (r_ref06_reader_rep n) fuel) a) h⟩), fn_of (F := Fr_ref06_reader_cat (r_ref06_reader_cat (n + 1))) (hn := ref06_reader_cat.h) (E := ref06_reader_cat.E (r_ref06_reader_alt n) (r_ref06_reader_cat n) (r_ref06_reader_rep n)) cxOk (tysT _ _ _) (fs_cons ok_ref06_reader_see (fs_cons ok_ref06_reader_capped (fs_cons ok_ref06_several (fs_cons (okr_ref06_reader_alt n).2.2 fs_nil)))) follows Try.func31 (by kernel_rfl) (fun a r h => ⟨fuel, Eq.trans (congrFun (ref06_reader_cat.o0 (r_ref06_reader_alt n) (r_ref06_reader_cat n) (r_ref06_reader_rep n) fuel) a) h⟩), fn_of (F := Fr_ref06_reader_rep (r_ref06_reader_rep (n + 1))) (hn := ref06_reader_rep.h) (E := ref06_reader_rep.E (r_ref06_reader_alt n) (r_ref06_reader_cat n) (r_ref06_reader_rep n)) cxOk (tysT _ _ _) (fs_cons (okr_ref06_reader_alt n).1 (fs_cons ok_ref06_reader_see (fs_cons ok_ref06_reader_take (fs_cons ok_ref06_reader_capped (fs_cons ok_ref06_reader_class (fs_cons ok_ref06_but (fs_cons ok_ref06_set (fs_cons ok_ref06_sign (fs_cons ok_ref06_reader_escape (fs_cons ok_ref06_special fs_nil)))))))))) follows Try.func47 (by kernel_rfl) (fun a r h => ⟨fuel, Eq.trans (congrFun (ref06_reader_rep.o0 (r_ref06_reader_alt n) (r_ref06_reader_cat n) (r_ref06_reader_rep n) fuel) a) h⟩)⟩
def s_ref06_reader_alt (a : D32) : Option D33 := r_ref06_reader_alt fuel a
def F_ref06_reader_alt : FSpec cx.toNm := Fr_ref06_reader_alt s_ref06_reader_alt
theorem ok_ref06_reader_alt : FnOk Try.prog F_ref06_reader_alt 19 := (okr_ref06_reader_alt fuel).1
namespace ref06_Parse
def E : Env cx := { tys := tys, fs := fsOf [(18, F_ref01_First), (19, F_ref06_reader_alt)] }
abbrev R := Option (D27)
def h : Hint := { vs := [0, 2, 3, 4, 5, 6, 7], ret := ([2, 3], [2, 7, 13]), nil := [(12, m_0)], cuts := [(4, ([0, 2, 4], [2, 13]), ([0, 2, 4], [2, 13])), (10, ([2, 4], [2, 13]), ([2, 4], [2, 13])), (12, ([2, 4, 7, 55], [2, 7, 13]), ([2, 4, 7], [2, 7, 13])), (13, ([2, 4, 7], [2, 7, 13]), ([2, 4, 7], [2, 7, 13]))] }
def W : Pr cx (D27) := ⟨E, h, bodyC Try.f7, fin (S := cx) E Try.f7.results.toList t9 .ro [] []⟩
abbrev T4 := D2 → D2 → D7 → R
abbrev T3 := Bool → D2 → D2 → D7 → R
abbrev T2 := D2 → D7 → R
abbrev T1 := (List UInt8) → D2 → D7 → R
abbrev T0 := D15 → R
def u0 (k : Nat) : T0 := fun a => runOf (S := cx) E h k Try.f7 [.val .str] t9 .ro a
abbrev l4 (c : Bool) (k : Nat) : T4 := fun m2 m7 m13 => lfR c W k [1, 1, 1, 1, 1, 1] [] ⟨[(2, vA 2), (4, vA 13), (7, vA 7)], [], [(2, ⟨t7, .ro, m2⟩), (7, ⟨t7, .ro, m7⟩), (13, ⟨t14, m_0, m13⟩)]⟩
abbrev l3 (c : Bool) (k : Nat) : T3 := fun x55 m2 m7 m13 => lfR c W k [1, 1, 1, 1, 1, 0, 1] [] ⟨[(2, vA 2), (4, vA 13), (7, vA 7), (55, vB x55)], [], [(2, ⟨t7, .ro, m2⟩), (7, ⟨t7, .ro, m7⟩), (13, ⟨t14, m_0, m13⟩)]⟩
abbrev l2 (c : Bool) (k : Nat) : T2 := fun m2 m13 => lfR c W k [1, 1, 1, 1] [] ⟨[(2, vA 2), (4, vA 13)], [], [(2, ⟨t7, .ro, m2⟩), (13, ⟨t14, m_0, m13⟩)]⟩
abbrev l1 (c : Bool) (k n1 : Nat) : T1 := fun x0 m2 m13 => lfL c W k [1, 1, 1, 0, 0] [] n1 ⟨[(0, vS x0), (2, vA 2), (4, vA 13)], [], [(2, ⟨t7, .ro, m2⟩), (13, ⟨t14, m_0, m13⟩)]⟩
def t4 : T4 := fun m2 m7 m13 => (iteB m13.2.2.2 (some ((((0 : Int), ((List.replicate 4 (0 : Int)), ([] : List (N0)))), (21 : Int)), ())) (some ((m7, (0 : Int)), ())))
def p4 (k : Nat) : T4 := t4
theorem o4 (k : Nat) : l4 true k = p4 k := lfo (b := l4 false k) (fx3 fun _ _ _ => lcR) (by kernel_rfl) rfl
def t3 (f4 : T4) : T3 := fun x55 m2 m7 m13 => (iteB x55 (some ((((0 : Int), ((List.replicate 4 (0 : Int)), ([] : List (N0)))), (20 : Int)), ())) (f4 m2 m7 m13))
def p3 (k : Nat) : T3 := t3 (p4 k)
theorem o3 (k : Nat) : l3 true k = p3 k := lfo (b := l3 false k) (fx4 fun _ _ _ _ => lcR) (by kernel_rfl) (congrArg t3 (o4 k))
def t2 (f3 : T3) : T2 := fun m2 m13 => (bindR (s_ref06_reader_alt (m13, ())) fun r2 => (iteB r2.2.1.2.2.1 (f3 true m2 r2.1 r2.2.1) (f3 (decide (r2.2.1.2.1 < ((List.length r2.2.1.1 : Nat) : Int))) m2 r2.1 r2.2.1)))
def p2 (k : Nat) : T2 := t2 (p3 k)
theorem o2 (k : Nat) : l2 true k = p2 k := lfo (b := l2 false k) (fx2 fun _ _ => lcR) (by kernel_rfl) (congrArg t2 (o3 k))
def t1 (f1 : T1) (f2 : T2) : T1 := fun x0 m2 m13 => (iteB (decide ((0 : Int) < ((List.length x0 : Nat) : Int))) (bindR (s_ref01_First (x0, ())) fun r1 => (iteB (decide (r1.1.2 = (0 : Int))) (some ((((0 : Int), ((List.replicate 4 (0 : Int)), ([] : List (N0)))), (20 : Int)), ())) (mustR (room m13.1 ([r1.1.1] : List (Int))) (mustR (decide (0 ≤ r1.1.2)) (mustR (decide (r1.1.2 ≤ (((List.length x0) : Nat) : Int))) (f1 (List.drop (Int.toNat r1.1.2) (List.take (List.length x0) x0)) m2 ((m13.1 ++ ([r1.1.1] : List (Int))), m13.2))))))) (f2 m2 m13))
def p1 (k : Nat) : Nat → T1 := iter fun f => t1 f (p2 k)
theorem o1 (k : Nat) : ∀ n, l1 true k n = p1 k n := oL (u := l1 false k) (by kernel_rfl) (fun n1 => (fx3 fun _ _ _ => lcL)) (fun n1 => by kernel_rfl) (fun n1 f h => (congr (congrArg t1 h) (o2 k)))
def t0 (f1 : T1) : T0 := fun a => (iteB (decide ((100 : Int) < ((List.length a.1 : Nat) : Int))) (some ((((0 : Int), ((List.replicate 4 (0 : Int)), ([] : List (N0)))), (21 : Int)), ())) (f1 a.1 ((0 : Int), ((List.replicate 4 (0 : Int)), ([] : List (N0)))) (([] : List (Int)), ((0 : Int), (false, false)))))
def p0 (k : Nat) : T0 := t0 (p1 k k)
theorem o0 (k : Nat) : u0 k = p0 k := Eq.trans (by kernel_rfl) (congrArg t0 (o1 k k))
end ref06_Parse
def s_ref06_Parse (a : D15) : Option D27 := ref06_Parse.p0 fuel a
def F_ref06_Parse : FSpec cx.toNm := { ps := [.val .str], nres := 2, rt := t9, rm := .ro, f := s_ref06_Parse }
theorem ok_ref06_Parse : FnOk Try.prog F_ref06_Parse 7 := fn_of (F := F_ref06_Parse) (hn := ref06_Parse.h) (E := ref06_Parse.E) cxOk (tysT _ _ _) (fs_cons ok_ref01_First (fs_cons ok_ref06_reader_alt fs_nil)) follows Try.func7 (by kernel_rfl) (fun a r h => ⟨fuel, (congrFun (ref06_Parse.o0 fuel) a).trans ((by kernel_rfl : s_ref06_Parse a = F_ref06_Parse.f a).trans h)⟩)
def Fr_ref06_Spans (f : D17 → Option D34) : FSpec cx.toNm := { ps := [.val t7, .val .str], nres := 1, rt := t21, rm := .ro, f := f }
namespace ref06_Spans
def E (sf_ref06_Spans : D17 → Option D34) : Env cx := { tys := tys, fs := fsOf [(21, Fr_ref06_Spans sf_ref06_Spans), (42, F_ref05_Has)] }
abbrev R := Option (D34)
def h : Hint := { vs := [0, 1, 2, 4, 5, 6, 7, 8, 9, 10, 11, 12, 13, 14, 15, 16, 17, 18, 19], ret := ([4], [2]), nil := [(6, m_1), (12, m_1), (31, m_1), (92, m_1), (30, (.own .ro)), (91, (.own .ro))], cuts := [(4, ([1, 2, 5, 6, 7], [2]), ([1, 2, 5, 6], [2])), (7, ([1, 2, 5, 6], [2]), ([1, 2, 5, 6], [2])), (9, ([1, 2, 6, 8], [2]), ([6], [])), (12, ([6], []), ([6], [])), (13, ([1, 2, 5, 6], [2]), ([1, 2, 5, 6], [2])), (15, ([1, 2, 5, 6, 9], [2]), ([1, 2, 5, 6], [2])), (18, ([1, 2, 5, 6], [2]), ([1, 2, 5, 6], [2])), (19, ([1, 2, 5, 6, 10], [2]), ([2, 5, 6], [2])), (20, ([1, 2, 5, 6, 10], [2]), ([1, 2, 5, 6, 10], [2])), (24, ([1, 2, 5, 6, 10, 11, 12, 13], [2]), ([1, 2, 5, 6, 10, 11, 12], [2])), (27, ([1, 2, 5, 6, 10, 11, 12], [2]), ([1, 2, 5, 6, 10], [2])), (28, ([1, 2, 5, 6, 10, 11, 12, 14], [2]), ([1, 2, 5, 10, 12], [2])), (29, ([1, 2, 5, 6, 10, 11, 12, 14], [2]), ([1, 2, 5, 6, 10, 11, 12, 14], [2])), (31, ([1, 2, 5, 6, 10, 11, 12, 14, 15], [2]), ([1, 2, 5, 6, 10, 11, 12, 14], [2])), (32, ([1, 2, 5, 6, 10, 11, 12, 14, 15], [2]), ([1, 2, 5, 6, 10, 11, 12, 14, 15], [2])), (35, ([1, 2, 5, 6, 10, 11, 12, 14, 15, 16], [2]), ([1, 2, 5, 6, 10, 11, 12, 14, 15], [2])), (36, ([1, 2, 5, 6, 10, 11, 12, 14, 15, 16], [2]), ([1, 2, 5, 6, 10, 11, 12, 14, 15, 16], [2])), (39, ([1, 2, 5, 10, 12], [2]), ([1, 2, 5, 6, 10], [2])), (40, ([2, 5, 6], [2]), ([2, 5, 6], [2])), (42, ([5, 6, 17], []), ([6], [])), (43, ([5, 6, 17], []), ([5, 6, 17], [])), (45, ([5, 6, 17, 18], []), ([5, 6, 17], [])), (46, ([5, 6, 17, 18], []), ([5, 6, 17, 18], [])), (48, ([5, 6, 17, 18, 19], []), ([5, 6, 17, 18], [])), (49, ([5, 6, 17, 18, 19], []), ([5, 6, 17, 18, 19], [])), (51, ([6], []), ([6], []))] }
def W (sf_ref06_Spans : D17 → Option D34) : Pr cx (D34) := ⟨(E sf_ref06_Spans), h, bodyC Try.f21, fin (S := cx) (E sf_ref06_Spans) Try.f21.results.toList t21 .ro [] []⟩
abbrev T5 := D9 → R
abbrev T3 := (List UInt8) → D9 → Int → D2 → R
abbrev T18 := (List UInt8) → Int → D9 → Int → D9 → D9 → Int → Int → Int → D2 → R
abbrev T16 := (List UInt8) → Int → D9 → Int → D9 → D9 → Int → Int → D2 → R
abbrev T15 := (List UInt8) → Int → D9 → Int → D9 → D9 → Int → Int → Int → D2 → R
abbrev T17 := (List UInt8) → Int → D9 → Int → D9 → D9 → Int → D2 → R
abbrev T13 := (List UInt8) → Int → D9 → Int → D9 → D9 → Int → Int → D2 → R
abbrev T19 := (List UInt8) → Int → D9 → Int → D2 → R
abbrev T14 := (List UInt8) → Int → Int → D9 → D2 → R
abbrev T12 := (List UInt8) → Int → D9 → Int → D9 → D9 → Int → D2 → R
abbrev T11 := (List UInt8) → Int → D9 → Int → D9 → D9 → D2 → R
abbrev T9 := (List UInt8) → Int → D9 → Int → D9 → D9 → Int → D2 → R
abbrev T25 := Int → D9 → Int → Int → Int → R
abbrev T26 := Int → D9 → Int → Int → R
abbrev T23 := Int → D9 → Int → Int → Int → R
abbrev T24 := Int → D9 → Int → R
abbrev T22 := Int → D9 → Int → Int → R
abbrev T21 := D9 → R
abbrev T20 := Int → D9 → Int → R
abbrev T10 := Int → D9 → D2 → R
abbrev T8 := (List UInt8) → Int → D9 → Int → D2 → R
abbrev T7 := (List UInt8) → Int → D9 → D2 → R
abbrev T6 := (List UInt8) → Int → D9 → Int → D2 → R
abbrev T4 := (List UInt8) → Int → D9 → D2 → R
abbrev T2 := (List UInt8) → Int → D9 → D2 → R
abbrev T1 := (List UInt8) → Int → D9 → Int → D2 → R
abbrev T0 := D17 → R
def u0 (sf_ref06_Spans : D17 → Option D34) (k : Nat) : T0 := fun a => runOf (S := cx) (E sf_ref06_Spans) h k Try.f21 [.val t7, .val .str] t21 .ro a
abbrev l5 (sf_ref06_Spans : D17 → Option D34) (c : Bool) (k : Nat) : T5 := fun x6 => lfR c (W sf_ref06_Spans) k [1, 1, 1, 1, 0, 1, 0, 1] [] ⟨[(6, .v t21 m_1 x6)], [], []⟩
abbrev l3 (sf_ref06_Spans : D17 → Option D34) (c : Bool) (k n3 : Nat) : T3 := fun x1 x6 x8 m2 => lfL c (W sf_ref06_Spans) k [1, 1, 1, 1, 0, 1, 0, 0, 1, 0] [] n3 ⟨[(1, vS x1), (2, vA 2), (6, .v t21 m_1 x6), (8, vI x8)], [], [(2, ⟨t7, .ro, m2⟩)]⟩
abbrev l18 (sf_ref06_Spans : D17 → Option D34) (c : Bool) (k n8 n12 n13 n15 : Nat) : T18 := fun x1 x5 x6 x10 x11 x12 x14 x15 x16 m2 => lfR c (W sf_ref06_Spans) k [1, 1, 1, 1, 1, 1, 0, 1, 0, 0, 1, 0, 0, 1, 1, 1, 0, 1, 0, 0, 1, 0, 0, 1, 0, 0, 1, 0, 0, 1, 0, 1, 0, 0, 1, 1] [n8, n12, n13, n15] ⟨[(1, vS x1), (2, vA 2), (5, vI x5), (6, .v t21 m_1 x6), (10, vI x10), (11, vR t21 x11), (12, .v t21 m_1 x12), (14, vI x14), (15, vI x15), (16, vI x16)], [], [(2, ⟨t7, .ro, m2⟩)]⟩
abbrev l16 (sf_ref06_Spans : D17 → Option D34) (c : Bool) (k n8 n12 n13 : Nat) : T16 := fun x1 x5 x6 x10 x11 x12 x14 x15 m2 => lfR c (W sf_ref06_Spans) k [1, 1, 1, 1, 1, 1, 0, 1, 0, 0, 1, 0, 0, 1, 1, 1, 0, 1, 0, 0, 1, 0, 0, 1, 0, 0, 1, 1] [n8, n12, n13] ⟨[(1, vS x1), (2, vA 2), (5, vI x5), (6, .v t21 m_1 x6), (10, vI x10), (11, vR t21 x11), (12, .v t21 m_1 x12), (14, vI x14), (15, vI x15)], [], [(2, ⟨t7, .ro, m2⟩)]⟩
abbrev l15 (sf_ref06_Spans : D17 → Option D34) (c : Bool) (k n8 n12 n13 n15 : Nat) : T15 := fun x1 x5 x6 x10 x11 x12 x14 x15 x16 m2 => lfL c (W sf_ref06_Spans) k [1, 1, 1, 1, 1, 1, 0, 1, 0, 0, 1, 0, 0, 1, 1, 1, 0, 1, 0, 0, 1, 0, 0, 1, 0, 0, 1, 0, 0, 1, 0, 1, 0] [n8, n12, n13] n15 ⟨[(1, vS x1), (2, vA 2), (5, vI x5), (6, .v t21 m_1 x6), (10, vI x10), (11, vR t21 x11), (12, .v t21 m_1 x12), (14, vI x14), (15, vI x15), (16, vI x16)], [], [(2, ⟨t7, .ro, m2⟩)]⟩
abbrev l17 (sf_ref06_Spans : D17 → Option D34) (c : Bool) (k n8 n12 : Nat) : T17 := fun x1 x5 x6 x10 x11 x12 x14 m2 => lfR c (W sf_ref06_Spans) k [1, 1, 1, 1, 1, 1, 0, 1, 0, 0, 1, 0, 0, 1, 1, 1, 0, 1, 0, 0, 1, 1] [n8, n12] ⟨[(1, vS x1), (2, vA 2), (5, vI x5), (6, .v t21 m_1 x6), (10, vI x10), (11, vR t21 x11), (12, .v t21 m_1 x12), (14, vI x14)], [], [(2, ⟨t7, .ro, m2⟩)]⟩
abbrev l13 (sf_ref06_Spans : D17 → Option D34) (c : Bool) (k n8 n12 n13 : Nat) : T13 := fun x1 x5 x6 x10 x11 x12 x14 x15 m2 => lfL c (W sf_ref06_Spans) k [1, 1, 1, 1, 1, 1, 0, 1, 0, 0, 1, 0, 0, 1, 1, 1, 0, 1, 0, 0, 1, 0, 0, 1, 0] [n8, n12] n13 ⟨[(1, vS x1), (2, vA 2), (5, vI x5), (6, .v t21 m_1 x6), (10, vI x10), (11, vR t21 x11), (12, .v t21 m_1 x12), (14, vI x14), (15, vI x15)], [], [(2, ⟨t7, .ro, m2⟩)]⟩
abbrev l19 (sf_ref06_Spans : D17 → Option D34) (c : Bool) (k n8 : Nat) : T19 := fun x1 x5 x6 x10 m2 => lfR c (W sf_ref06_Spans) k [1, 1, 1, 1, 1, 1, 0, 1, 0, 0, 1, 1] [n8] ⟨[(1, vS x1), (2, vA 2), (5, vI x5), (6, .v t21 m_1 x6), (10, vI x10)], [], [(2, ⟨t7, .ro, m2⟩)]⟩
abbrev l14 (sf_ref06_Spans : D17 → Option D34) (c : Bool) (k n8 : Nat) : T14 := fun x1 x5 x10 x12 m2 => lfR c (W sf_ref06_Spans) k [1, 1, 1, 1, 1, 1, 0, 1, 0, 0, 1, 0, 0, 1, 1, 1, 1] [n8] ⟨[(1, vS x1), (2, vA 2), (5, vI x5), (10, vI x10), (12, .v t21 m_1 x12)], [], [(2, ⟨t7, .ro, m2⟩)]⟩
abbrev l12 (sf_ref06_Spans : D17 → Option D34) (c : Bool) (k n8 n12 : Nat) : T12 := fun x1 x5 x6 x10 x11 x12 x14 m2 => lfL c (W sf_ref06_Spans) k [1, 1, 1, 1, 1, 1, 0, 1, 0, 0, 1, 0, 0, 1, 1, 1, 0, 1, 0] [n8] n12 ⟨[(1, vS x1), (2, vA 2), (5, vI x5), (6, .v t21 m_1 x6), (10, vI x10), (11, vR t21 x11), (12, .v t21 m_1 x12), (14, vI x14)], [], [(2, ⟨t7, .ro, m2⟩)]⟩
abbrev l11 (sf_ref06_Spans : D17 → Option D34) (c : Bool) (k n8 : Nat) : T11 := fun x1 x5 x6 x10 x11 x12 m2 => lfR c (W sf_ref06_Spans) k [1, 1, 1, 1, 1, 1, 0, 1, 0, 0, 1, 0, 0, 1, 1, 1] [n8] ⟨[(1, vS x1), (2, vA 2), (5, vI x5), (6, .v t21 m_1 x6), (10, vI x10), (11, vR t21 x11), (12, .v t21 m_1 x12)], [], [(2, ⟨t7, .ro, m2⟩)]⟩
abbrev l9 (sf_ref06_Spans : D17 → Option D34) (c : Bool) (k n8 n9 : Nat) : T9 := fun x1 x5 x6 x10 x11 x12 x13 m2 => lfL c (W sf_ref06_Spans) k [1, 1, 1, 1, 1, 1, 0, 1, 0, 0, 1, 0, 0, 1, 1, 0, 1, 0] [n8] n9 ⟨[(1, vS x1), (2, vA 2), (5, vI x5), (6, .v t21 m_1 x6), (10, vI x10), (11, vR t21 x11), (12, .v t21 m_1 x12), (13, vI x13)], [], [(2, ⟨t7, .ro, m2⟩)]⟩
abbrev l25 (sf_ref06_Spans : D17 → Option D34) (c : Bool) (k n20 n22 n23 : Nat) : T25 := fun x5 x6 x17 x18 x19 => lfR c (W sf_ref06_Spans) k [1, 1, 1, 1, 1, 1, 1, 0, 1, 0, 1, 0, 0, 1, 0, 0, 1, 0, 0, 1, 0, 0, 1, 0, 0, 1, 1] [n20, n22, n23] ⟨[(5, vI x5), (6, .v t21 m_1 x6), (17, vI x17), (18, vI x18), (19, vI x19)], [], []⟩
abbrev l26 (sf_ref06_Spans : D17 → Option D34) (c : Bool) (k n20 n22 : Nat) : T26 := fun x5 x6 x17 x18 => lfR c (W sf_ref06_Spans) k [1, 1, 1, 1, 1, 1, 1, 0, 1, 0, 1, 0, 0, 1, 0, 0, 1, 0, 0, 1, 1] [n20, n22] ⟨[(5, vI x5), (6, .v t21 m_1 x6), (17, vI x17), (18, vI x18)], [], []⟩
abbrev l23 (sf_ref06_Spans : D17 → Option D34) (c : Bool) (k n20 n22 n23 : Nat) : T23 := fun x5 x6 x17 x18 x19 => lfL c (W sf_ref06_Spans) k [1, 1, 1, 1, 1, 1, 1, 0, 1, 0, 1, 0, 0, 1, 0, 0, 1, 0, 0, 1, 0, 0, 1, 0] [n20, n22] n23 ⟨[(5, vI x5), (6, .v t21 m_1 x6), (17, vI x17), (18, vI x18), (19, vI x19)], [], []⟩
abbrev l24 (sf_ref06_Spans : D17 → Option D34) (c : Bool) (k n20 : Nat) : T24 := fun x5 x6 x17 => lfR c (W sf_ref06_Spans) k [1, 1, 1, 1, 1, 1, 1, 0, 1, 0, 1, 0, 0, 1, 1] [n20] ⟨[(5, vI x5), (6, .v t21 m_1 x6), (17, vI x17)], [], []⟩
abbrev l22 (sf_ref06_Spans : D17 → Option D34) (c : Bool) (k n20 n22 : Nat) : T22 := fun x5 x6 x17 x18 => lfL c (W sf_ref06_Spans) k [1, 1, 1, 1, 1, 1, 1, 0, 1, 0, 1, 0, 0, 1, 0, 0, 1, 0] [n20] n22 ⟨[(5, vI x5), (6, .v t21 m_1 x6), (17, vI x17), (18, vI x18)], [], []⟩
abbrev l21 (sf_ref06_Spans : D17 → Option D34) (c : Bool) (k : Nat) : T21 := fun x6 => lfR c (W sf_ref06_Spans) k [1, 1, 1, 1, 1, 1, 1, 1] [] ⟨[(6, .v t21 m_1 x6)], [], []⟩
abbrev l20 (sf_ref06_Spans : D17 → Option D34) (c : Bool) (k n20 : Nat) : T20 := fun x5 x6 x17 => lfL c (W sf_ref06_Spans) k [1, 1, 1, 1, 1, 1, 1, 0, 1, 0, 1, 0] [] n20 ⟨[(5, vI x5), (6, .v t21 m_1 x6), (17, vI x17)], [], []⟩
abbrev l10 (sf_ref06_Spans : D17 → Option D34) (c : Bool) (k : Nat) : T10 := fun x5 x6 m2 => lfR c (W sf_ref06_Spans) k [1, 1, 1, 1, 1, 1, 1] [] ⟨[(2, vA 2), (5, vI x5), (6, .v t21 m_1 x6)], [], [(2, ⟨t7, .ro, m2⟩)]⟩
abbrev l8 (sf_ref06_Spans : D17 → Option D34) (c : Bool) (k n8 : Nat) : T8 := fun x1 x5 x6 x10 m2 => lfL c (W sf_ref06_Spans) k [1, 1, 1, 1, 1, 1, 0, 1, 0] [] n8 ⟨[(1, vS x1), (2, vA 2), (5, vI x5), (6, .v t21 m_1 x6), (10, vI x10)], [], [(2, ⟨t7, .ro, m2⟩)]⟩
abbrev l7 (sf_ref06_Spans : D17 → Option D34) (c : Bool) (k : Nat) : T7 := fun x1 x5 x6 m2 => lfR c (W sf_ref06_Spans) k [1, 1, 1, 1, 1, 1] [] ⟨[(1, vS x1), (2, vA 2), (5, vI x5), (6, .v t21 m_1 x6)], [], [(2, ⟨t7, .ro, m2⟩)]⟩
abbrev l6 (sf_ref06_Spans : D17 → Option D34) (c : Bool) (k n6 : Nat) : T6 := fun x1 x5 x6 x9 m2 => lfL c (W sf_ref06_Spans) k [1, 1, 1, 1, 1, 0, 1, 0, 1, 0] [] n6 ⟨[(1, vS x1), (2, vA 2), (5, vI x5), (6, .v t21 m_1 x6), (9, vI x9)], [], [(2, ⟨t7, .ro, m2⟩)]⟩
abbrev l4 (sf_ref06_Spans : D17 → Option D34) (c : Bool) (k : Nat) : T4 := fun x1 x5 x6 m2 => lfR c (W sf_ref06_Spans) k [1, 1, 1, 1, 1] [] ⟨[(1, vS x1), (2, vA 2), (5, vI x5), (6, .v t21 m_1 x6)], [], [(2, ⟨t7, .ro, m2⟩)]⟩
abbrev l2 (sf_ref06_Spans : D17 → Option D34) (c : Bool) (k : Nat) : T2 := fun x1 x5 x6 m2 => lfR c (W sf_ref06_Spans) k [1, 1, 1, 1] [] ⟨[(1, vS x1), (2, vA 2), (5, vI x5), (6, .v t21 m_1 x6)], [], [(2, ⟨t7, .ro, m2⟩)]⟩
abbrev l1 (sf_ref06_Spans : D17 → Option D34) (c : Bool) (k n1 : Nat) : T1 := fun x1 x5 x6 x7 m2 => lfL c (W sf_ref06_Spans) k [1, 1, 1, 0, 1, 0] [] n1 ⟨[(1, vS x1), (2, vA 2), (5, vI x5), (6, .v t21 m_1 x6), (7, vI x7)], [], [(2, ⟨t7, .ro, m2⟩)]⟩
def t5 (sf_ref06_Spans : D17 → Option D34) : T5 := fun x6 => (some (x6, ()))
def p5 (sf_ref06_Spans : D17 → Option D34) (k : Nat) : T5 := t5 sf_ref06_Spans
theorem o5 (sf_ref06_Spans : D17 → Option D34) (k : Nat) : l5 sf_ref06_Spans true k = p5 sf_ref06_Spans k := lfo (b := l5 sf_ref06_Spans false k) (fx1 fun _ => lcR) (by kernel_rfl) rfl
def t3 (sf_ref06_Spans : D17 → Option D34) (f3 : T3) (f5 : T5) : T3 := fun x1 x6 x8 m2 => (iteB (decide (x8 < ((List.length x1 : Nat) : Int))) (withinR x8 (List.length x6) fun q1 => (withinR x8 (List.length x1) fun q2 => (bindR (s_ref05_Has (m2.2.1, ((byteAt x1 q2), ()))) fun r3 => (withinR (w64 (x8 + (1 : Int))) (List.length (List.getD x6 q1 ([] : List (Bool)))) fun q4 => (f3 x1 (List.set x6 q1 (List.set (List.getD x6 q1 ([] : List (Bool))) q4 r3.1)) (w64 (x8 + (1 : Int))) m2))))) (f5 x6))
def p3 (sf_ref06_Spans : D17 → Option D34) (k : Nat) : Nat → T3 := iter fun f => t3 sf_ref06_Spans f (p5 sf_ref06_Spans k)
theorem o3 (sf_ref06_Spans : D17 → Option D34) (k : Nat) : ∀ n, l3 sf_ref06_Spans true k n = p3 sf_ref06_Spans k n := oL (u := l3 sf_ref06_Spans false k) (by kernel_rfl) (fun n3 => (fx4 fun _ _ _ _ => lcL)) (fun n3 => by kernel_rfl) (fun n3 f h => (congr (congrArg (t3 sf_ref06_Spans) h) (o5 sf_ref06_Spans k)))
def t18 (sf_ref06_Spans : D17 → Option D34) (f15 : T15) : T18 := fun x1 x5 x6 x10 x11 x12 x14 x15 x16 m2 => (f15 x1 x5 x6 x10 x11 x12 x14 x15 (w64 (x16 + (1 : Int))) m2)
def p18 (sf_ref06_Spans : D17 → Option D34) (k : Nat) (a8 : T8) (a12 : T12) (a13 : T13) (a15 : T15) : T18 := t18 sf_ref06_Spans a15
theorem o18 (sf_ref06_Spans : D17 → Option D34) (k n8 n12 n13 n15 : Nat) (a8 : T8) (a12 : T12) (a13 : T13) (a15 : T15) (h8 : l8 sf_ref06_Spans true k n8 = a8) (h12 : l12 sf_ref06_Spans true k n8 n12 = a12) (h13 : l13 sf_ref06_Spans true k n8 n12 n13 = a13) (h15 : l15 sf_ref06_Spans true k n8 n12 n13 n15 = a15) : l18 sf_ref06_Spans true k n8 n12 n13 n15 = p18 sf_ref06_Spans k a8 a12 a13 a15 := lfo (b := l18 sf_ref06_Spans false k n8 n12 n13 n15) (fx10 fun _ _ _ _ _ _ _ _ _ _ => lcR) (by kernel_rfl) (congrArg (t18 sf_ref06_Spans) h15)
def t16 (sf_ref06_Spans : D17 → Option D34) (f13 : T13) : T16 := fun x1 x5 x6 x10 x11 x12 x14 x15 m2 => (f13 x1 x5 x6 x10 x11 x12 x14 (w64 (x15 + (1 : Int))) m2)
def p16 (sf_ref06_Spans : D17 → Option D34) (k : Nat) (a8 : T8) (a12 : T12) (a13 : T13) : T16 := t16 sf_ref06_Spans a13
theorem o16 (sf_ref06_Spans : D17 → Option D34) (k n8 n12 n13 : Nat) (a8 : T8) (a12 : T12) (a13 : T13) (h8 : l8 sf_ref06_Spans true k n8 = a8) (h12 : l12 sf_ref06_Spans true k n8 n12 = a12) (h13 : l13 sf_ref06_Spans true k n8 n12 n13 = a13) : l16 sf_ref06_Spans true k n8 n12 n13 = p16 sf_ref06_Spans k a8 a12 a13 := lfo (b := l16 sf_ref06_Spans false k n8 n12 n13) (fx9 fun _ _ _ _ _ _ _ _ _ => lcR) (by kernel_rfl) (congrArg (t16 sf_ref06_Spans) h13)
def t15 (sf_ref06_Spans : D17 → Option D34) (f18 : T18) (f16 : T16) : T15 := fun x1 x5 x6 x10 x11 x12 x14 x15 x16 m2 => (iteB (decide (x16 ≤ x15)) (withinR x14 (List.length x12) fun q16 => (withinR x14 (List.length x12) fun q17 => (withinR x15 (List.length (List.getD x12 q17 ([] : List (Bool)))) fun q18 => (iteB (List.getD (List.getD x12 q17 ([] : List (Bool))) q18 false) (withinR x15 (List.length (List.getD x12 q16 ([] : List (Bool)))) fun q19 => (f18 x1 x5 x6 x10 x11 (List.set x12 q16 (List.set (List.getD x12 q16 ([] : List (Bool))) q19 true)) x14 x15 x16 m2)) (withinR x14 (List.length x6) fun q20 => (withinR x16 (List.length (List.getD x6 q20 ([] : List (Bool)))) fun q21 => (iteB (List.getD (List.getD x6 q20 ([] : List (Bool))) q21 false) (withinR x16 (List.length x11) fun q22 => (withinR x15 (List.length (List.getD x11 q22 ([] : List (Bool)))) fun q23 => (withinR x15 (List.length (List.getD x12 q16 ([] : List (Bool)))) fun q24 => (f18 x1 x5 x6 x10 x11 (List.set x12 q16 (List.set (List.getD x12 q16 ([] : List (Bool))) q24 (List.getD (List.getD x11 q22 ([] : List (Bool))) q23 false))) x14 x15 x16 m2)))) (withinR x15 (List.length (List.getD x12 q16 ([] : List (Bool)))) fun q25 => (f18 x1 x5 x6 x10 x11 (List.set x12 q16 (List.set (List.getD x12 q16 ([] : List (Bool))) q25 false)) x14 x15 x16 m2))))))))) (f16 x1 x5 x6 x10 x11 x12 x14 x15 m2))
def p15 (sf_ref06_Spans : D17 → Option D34) (k : Nat) (a8 : T8) (a12 : T12) (a13 : T13) : Nat → T15 := iter fun f => t15 sf_ref06_Spans (p18 sf_ref06_Spans k a8 a12 a13 f) (p16 sf_ref06_Spans k a8 a12 a13)
theorem o15 (sf_ref06_Spans : D17 → Option D34) (k n8 n12 n13 : Nat) (a8 : T8) (a12 : T12) (a13 : T13) (h8 : l8 sf_ref06_Spans true k n8 = a8) (h12 : l12 sf_ref06_Spans true k n8 n12 = a12) (h13 : l13 sf_ref06_Spans true k n8 n12 n13 = a13) : ∀ n, l15 sf_ref06_Spans true k n8 n12 n13 n = p15 sf_ref06_Spans k a8 a12 a13 n := oL (u := l15 sf_ref06_Spans false k n8 n12 n13) (by kernel_rfl) (fun n15 => (fx10 fun _ _ _ _ _ _ _ _ _ _ => lcL)) (fun n15 => by kernel_rfl) (fun n15 f h => (congr (congrArg (t15 sf_ref06_Spans) (o18 sf_ref06_Spans k n8 n12 n13 n15 a8 a12 a13 f h8 h12 h13 h)) (o16 sf_ref06_Spans k n8 n12 n13 a8 a12 a13 h8 h12 h13)))
def t17 (sf_ref06_Spans : D17 → Option D34) (f12 : T12) : T17 := fun x1 x5 x6 x10 x11 x12 x14 m2 => (f12 x1 x5 x6 x10 x11 x12 (w64 (x14 + (1 : Int))) m2)
def p17 (sf_ref06_Spans : D17 → Option D34) (k : Nat) (a8 : T8) (a12 : T12) : T17 := t17 sf_ref06_Spans a12
theorem o17 (sf_ref06_Spans : D17 → Option D34) (k n8 n12 : Nat) (a8 : T8) (a12 : T12) (h8 : l8 sf_ref06_Spans true k n8 = a8) (h12 : l12 sf_ref06_Spans true k n8 n12 = a12) : l17 sf_ref06_Spans true k n8 n12 = p17 sf_ref06_Spans k a8 a12 := lfo (b := l17 sf_ref06_Spans false k n8 n12) (fx8 fun _ _ _ _ _ _ _ _ => lcR) (by kernel_rfl) (congrArg (t17 sf_ref06_Spans) h12)
def t13 (sf_ref06_Spans : D17 → Option D34) (f15 : T15) (f16 : T16) (f17 : T17) : T13 := fun x1 x5 x6 x10 x11 x12 x14 x15 m2 => (iteB (decide (x15 < x5)) (iteB (decide (m2.1 = (2 : Int))) (f15 x1 x5 x6 x10 x11 x12 x14 x15 x14 m2) (withinR x14 (List.length x12) fun q9 => (withinR x14 (List.length x6) fun q10 => (withinR x15 (List.length (List.getD x6 q10 ([] : List (Bool)))) fun q11 => (iteB (List.getD (List.getD x6 q10 ([] : List (Bool))) q11 false) (withinR x15 (List.length (List.getD x12 q9 ([] : List (Bool)))) fun q12 => (f16 x1 x5 x6 x10 x11 (List.set x12 q9 (List.set (List.getD x12 q9 ([] : List (Bool))) q12 true)) x14 x15 m2)) (withinR x14 (List.length x11) fun q13 => (withinR x15 (List.length (List.getD x11 q13 ([] : List (Bool)))) fun q14 => (withinR x15 (List.length (List.getD x12 q9 ([] : List (Bool)))) fun q15 => (f16 x1 x5 x6 x10 x11 (List.set x12 q9 (List.set (List.getD x12 q9 ([] : List (Bool))) q15 (List.getD (List.getD x11 q13 ([] : List (Bool))) q14 false))) x14 x15 m2))))))))) (f17 x1 x5 x6 x10 x11 x12 x14 m2))
def p13 (sf_ref06_Spans : D17 → Option D34) (k : Nat) (a8 : T8) (a12 : T12) : Nat → T13 := iter fun f => t13 sf_ref06_Spans (p15 sf_ref06_Spans k a8 a12 f k) (p16 sf_ref06_Spans k a8 a12 f) (p17 sf_ref06_Spans k a8 a12)
theorem o13 (sf_ref06_Spans : D17 → Option D34) (k n8 n12 : Nat) (a8 : T8) (a12 : T12) (h8 : l8 sf_ref06_Spans true k n8 = a8) (h12 : l12 sf_ref06_Spans true k n8 n12 = a12) : ∀ n, l13 sf_ref06_Spans true k n8 n12 n = p13 sf_ref06_Spans k a8 a12 n := oL (u := l13 sf_ref06_Spans false k n8 n12) (by kernel_rfl) (fun n13 => (fx9 fun _ _ _ _ _ _ _ _ _ => lcL)) (fun n13 => by kernel_rfl) (fun n13 f h => (congr (congr (congrArg (t13 sf_ref06_Spans) (o15 sf_ref06_Spans k n8 n12 n13 a8 a12 f h8 h12 h k)) (o16 sf_ref06_Spans k n8 n12 n13 a8 a12 f h8 h12 h)) (o17 sf_ref06_Spans k n8 n12 a8 a12 h8 h12)))
def t19 (sf_ref06_Spans : D17 → Option D34) (f8 : T8) : T19 := fun x1 x5 x6 x10 m2 => (f8 x1 x5 x6 (w64 (x10 + (1 : Int))) m2)
def p19 (sf_ref06_Spans : D17 → Option D34) (k : Nat) (a8 : T8) : T19 := t19 sf_ref06_Spans a8
theorem o19 (sf_ref06_Spans : D17 → Option D34) (k n8 : Nat) (a8 : T8) (h8 : l8 sf_ref06_Spans true k n8 = a8) : l19 sf_ref06_Spans true k n8 = p19 sf_ref06_Spans k a8 := lfo (b := l19 sf_ref06_Spans false k n8) (fx5 fun _ _ _ _ _ => lcR) (by kernel_rfl) (congrArg (t19 sf_ref06_Spans) h8)
def t14 (sf_ref06_Spans : D17 → Option D34) (f19 : T19) : T14 := fun x1 x5 x10 x12 m2 => (f19 x1 x5 x12 x10 m2)
def p14 (sf_ref06_Spans : D17 → Option D34) (k : Nat) (a8 : T8) : T14 := t14 sf_ref06_Spans (p19 sf_ref06_Spans k a8)
theorem o14 (sf_ref06_Spans : D17 → Option D34) (k n8 : Nat) (a8 : T8) (h8 : l8 sf_ref06_Spans true k n8 = a8) : l14 sf_ref06_Spans true k n8 = p14 sf_ref06_Spans k a8 := lfo (b := l14 sf_ref06_Spans false k n8) (fx5 fun _ _ _ _ _ => lcR) (by kernel_rfl) (congrArg (t14 sf_ref06_Spans) (o19 sf_ref06_Spans k n8 a8 h8))
def t12 (sf_ref06_Spans : D17 → Option D34) (f13 : T13) (f14 : T14) : T12 := fun x1 x5 x6 x10 x11 x12 x14 m2 => (iteB (decide (x14 < x5)) (f13 x1 x5 x6 x10 x11 x12 x14 x14 m2) (f14 x1 x5 x10 x12 m2))
def p12 (sf_ref06_Spans : D17 → Option D34) (k : Nat) (a8 : T8) : Nat → T12 := iter fun f => t12 sf_ref06_Spans (p13 sf_ref06_Spans k a8 f k) (p14 sf_ref06_Spans k a8)
theorem o12 (sf_ref06_Spans : D17 → Option D34) (k n8 : Nat) (a8 : T8) (h8 : l8 sf_ref06_Spans true k n8 = a8) : ∀ n, l12 sf_ref06_Spans true k n8 n = p12 sf_ref06_Spans k a8 n := oL (u := l12 sf_ref06_Spans false k n8) (by kernel_rfl) (fun n12 => (fx8 fun _ _ _ _ _ _ _ _ => lcL)) (fun n12 => by kernel_rfl) (fun n12 f h => (congr (congrArg (t12 sf_ref06_Spans) (o13 sf_ref06_Spans k n8 n12 a8 f h8 h k)) (o14 sf_ref06_Spans k n8 a8 h8)))
def t11 (sf_ref06_Spans : D17 → Option D34) (f12 : T12) : T11 := fun x1 x5 x6 x10 x11 x12 m2 => (f12 x1 x5 x6 x10 x11 x12 (0 : Int) m2)
def p11 (sf_ref06_Spans : D17 → Option D34) (k : Nat) (a8 : T8) : T11 := t11 sf_ref06_Spans (p12 sf_ref06_Spans k a8 k)
theorem o11 (sf_ref06_Spans : D17 → Option D34) (k n8 : Nat) (a8 : T8) (h8 : l8 sf_ref06_Spans true k n8 = a8) : l11 sf_ref06_Spans true k n8 = p11 sf_ref06_Spans k a8 := lfo (b := l11 sf_ref06_Spans false k n8) (fx7 fun _ _ _ _ _ _ _ => lcR) (by kernel_rfl) (congrArg (t11 sf_ref06_Spans) (o12 sf_ref06_Spans k n8 a8 h8 k))
def t9 (sf_ref06_Spans : D17 → Option D34) (f9 : T9) (f11 : T11) : T9 := fun x1 x5 x6 x10 x11 x12 x13 m2 => (iteB (decide (x13 < x5)) (mustR (decide (x5 = x5 ∧ (0 : Int) ≤ x5 ∧ x5 ≤ (16777216 : Int))) (mustR (room x12 ([(List.replicate (Int.toNat x5) false)] : List (D8))) (f9 x1 x5 x6 x10 x11 (x12 ++ ([(List.replicate (Int.toNat x5) false)] : List (D8))) (w64 (x13 + (1 : Int))) m2))) (f11 x1 x5 x6 x10 x11 x12 m2))
def p9 (sf_ref06_Spans : D17 → Option D34) (k : Nat) (a8 : T8) : Nat → T9 := iter fun f => t9 sf_ref06_Spans f (p11 sf_ref06_Spans k a8)
theorem o9 (sf_ref06_Spans : D17 → Option D34) (k n8 : Nat) (a8 : T8) (h8 : l8 sf_ref06_Spans true k n8 = a8) : ∀ n, l9 sf_ref06_Spans true k n8 n = p9 sf_ref06_Spans k a8 n := oL (u := l9 sf_ref06_Spans false k n8) (by kernel_rfl) (fun n9 => (fx8 fun _ _ _ _ _ _ _ _ => lcL)) (fun n9 => by kernel_rfl) (fun n9 f h => (congr (congrArg (t9 sf_ref06_Spans) h) (o11 sf_ref06_Spans k n8 a8 h8)))
def t25 (sf_ref06_Spans : D17 → Option D34) (f23 : T23) : T25 := fun x5 x6 x17 x18 x19 => (f23 x5 x6 x17 x18 (w64 (x19 + (1 : Int))))
def p25 (sf_ref06_Spans : D17 → Option D34) (k : Nat) (a20 : T20) (a22 : T22) (a23 : T23) : T25 := t25 sf_ref06_Spans a23
theorem o25 (sf_ref06_Spans : D17 → Option D34) (k n20 n22 n23 : Nat) (a20 : T20) (a22 : T22) (a23 : T23) (h20 : l20 sf_ref06_Spans true k n20 = a20) (h22 : l22 sf_ref06_Spans true k n20 n22 = a22) (h23 : l23 sf_ref06_Spans true k n20 n22 n23 = a23) : l25 sf_ref06_Spans true k n20 n22 n23 = p25 sf_ref06_Spans k a20 a22 a23 := lfo (b := l25 sf_ref06_Spans false k n20 n22 n23) (fx5 fun _ _ _ _ _ => lcR) (by kernel_rfl) (congrArg (t25 sf_ref06_Spans) h23)
def t26 (sf_ref06_Spans : D17 → Option D34) (f22 : T22) : T26 := fun x5 x6 x17 x18 => (f22 x5 x6 x17 (w64 (x18 + (1 : Int))))
def p26 (sf_ref06_Spans : D17 → Option D34) (k : Nat) (a20 : T20) (a22 : T22) : T26 := t26 sf_ref06_Spans a22
theorem o26 (sf_ref06_Spans : D17 → Option D34) (k n20 n22 : Nat) (a20 : T20) (a22 : T22) (h20 : l20 sf_ref06_Spans true k n20 = a20) (h22 : l22 sf_ref06_Spans true k n20 n22 = a22) : l26 sf_ref06_Spans true k n20 n22 = p26 sf_ref06_Spans k a20 a22 := lfo (b := l26 sf_ref06_Spans false k n20 n22) (fx4 fun _ _ _ _ => lcR) (by kernel_rfl) (congrArg (t26 sf_ref06_Spans) h22)
def t23 (sf_ref06_Spans : D17 → Option D34) (f25 : T25) (f26 : T26) : T23 := fun x5 x6 x17 x18 x19 => (iteB (decide (x19 < x5)) (withinR x18 (List.length x6) fun q26 => (withinR x18 (List.length x6) fun q27 => (withinR x19 (List.length (List.getD x6 q27 ([] : List (Bool)))) fun q28 => (iteB (List.getD (List.getD x6 q27 ([] : List (Bool))) q28 false) (withinR x19 (List.length (List.getD x6 q26 ([] : List (Bool)))) fun q29 => (f25 x5 (List.set x6 q26 (List.set (List.getD x6 q26 ([] : List (Bool))) q29 true)) x17 x18 x19)) (withinR x18 (List.length x6) fun q30 => (withinR x17 (List.length (List.getD x6 q30 ([] : List (Bool)))) fun q31 => (iteB (List.getD (List.getD x6 q30 ([] : List (Bool))) q31 false) (withinR x17 (List.length x6) fun q32 => (withinR x19 (List.length (List.getD x6 q32 ([] : List (Bool)))) fun q33 => (withinR x19 (List.length (List.getD x6 q26 ([] : List (Bool)))) fun q34 => (f25 x5 (List.set x6 q26 (List.set (List.getD x6 q26 ([] : List (Bool))) q34 (List.getD (List.getD x6 q32 ([] : List (Bool))) q33 false))) x17 x18 x19)))) (withinR x19 (List.length (List.getD x6 q26 ([] : List (Bool)))) fun q35 => (f25 x5 (List.set x6 q26 (List.set (List.getD x6 q26 ([] : List (Bool))) q35 false)) x17 x18 x19))))))))) (f26 x5 x6 x17 x18))
def p23 (sf_ref06_Spans : D17 → Option D34) (k : Nat) (a20 : T20) (a22 : T22) : Nat → T23 := iter fun f => t23 sf_ref06_Spans (p25 sf_ref06_Spans k a20 a22 f) (p26 sf_ref06_Spans k a20 a22)
theorem o23 (sf_ref06_Spans : D17 → Option D34) (k n20 n22 : Nat) (a20 : T20) (a22 : T22) (h20 : l20 sf_ref06_Spans true k n20 = a20) (h22 : l22 sf_ref06_Spans true k n20 n22 = a22) : ∀ n, l23 sf_ref06_Spans true k n20 n22 n = p23 sf_ref06_Spans k a20 a22 n := oL (u := l23 sf_ref06_Spans false k n20 n22) (by kernel_rfl) (fun n23 => (fx5 fun _ _ _ _ _ => lcL)) (fun n23 => by kernel_rfl) (fun n23 f h => (congr (congrArg (t23 sf_ref06_Spans) (o25 sf_ref06_Spans k n20 n22 n23 a20 a22 f h20 h22 h)) (o26 sf_ref06_Spans k n20 n22 a20 a22 h20 h22)))
def t24 (sf_ref06_Spans : D17 → Option D34) (f20 : T20) : T24 := fun x5 x6 x17 => (f20 x5 x6 (w64 (x17 + (1 : Int))))
def p24 (sf_ref06_Spans : D17 → Option D34) (k : Nat) (a20 : T20) : T24 := t24 sf_ref06_Spans a20
theorem o24 (sf_ref06_Spans : D17 → Option D34) (k n20 : Nat) (a20 : T20) (h20 : l20 sf_ref06_Spans true k n20 = a20) : l24 sf_ref06_Spans true k n20 = p24 sf_ref06_Spans k a20 := lfo (b := l24 sf_ref06_Spans false k n20) (fx3 fun _ _ _ => lcR) (by kernel_rfl) (congrArg (t24 sf_ref06_Spans) h20)
def t22 (sf_ref06_Spans : D17 → Option D34) (f23 : T23) (f24 : T24) : T22 := fun x5 x6 x17 x18 => (iteB (decide (x18 < x5)) (f23 x5 x6 x17 x18 (0 : Int)) (f24 x5 x6 x17))
def p22 (sf_ref06_Spans : D17 → Option D34) (k : Nat) (a20 : T20) : Nat → T22 := iter fun f => t22 sf_ref06_Spans (p23 sf_ref06_Spans k a20 f k) (p24 sf_ref06_Spans k a20)
theorem o22 (sf_ref06_Spans : D17 → Option D34) (k n20 : Nat) (a20 : T20) (h20 : l20 sf_ref06_Spans true k n20 = a20) : ∀ n, l22 sf_ref06_Spans true k n20 n = p22 sf_ref06_Spans k a20 n := oL (u := l22 sf_ref06_Spans false k n20) (by kernel_rfl) (fun n22 => (fx4 fun _ _ _ _ => lcL)) (fun n22 => by kernel_rfl) (fun n22 f h => (congr (congrArg (t22 sf_ref06_Spans) (o23 sf_ref06_Spans k n20 n22 a20 f h20 h k)) (o24 sf_ref06_Spans k n20 a20 h20)))
def t21 (sf_ref06_Spans : D17 → Option D34) : T21 := fun x6 => (some (x6, ()))
def p21 (sf_ref06_Spans : D17 → Option D34) (k : Nat) : T21 := t21 sf_ref06_Spans
theorem o21 (sf_ref06_Spans : D17 → Option D34) (k : Nat) : l21 sf_ref06_Spans true k = p21 sf_ref06_Spans k := lfo (b := l21 sf_ref06_Spans false k) (fx1 fun _ => lcR) (by kernel_rfl) rfl
def t20 (sf_ref06_Spans : D17 → Option D34) (f22 : T22) (f21 : T21) : T20 := fun x5 x6 x17 => (iteB (decide (x17 < x5)) (f22 x5 x6 x17 (0 : Int)) (f21 x6))
def p20 (sf_ref06_Spans : D17 → Option D34) (k : Nat) : Nat → T20 := iter fun f => t20 sf_ref06_Spans (p22 sf_ref06_Spans k f k) (p21 sf_ref06_Spans k)
theorem o20 (sf_ref06_Spans : D17 → Option D34) (k : Nat) : ∀ n, l20 sf_ref06_Spans true k n = p20 sf_ref06_Spans k n := oL (u := l20 sf_ref06_Spans false k) (by kernel_rfl) (fun n20 => (fx3 fun _ _ _ => lcL)) (fun n20 => by kernel_rfl) (fun n20 f h => (congr (congrArg (t20 sf_ref06_Spans) (o22 sf_ref06_Spans k n20 f h k)) (o21 sf_ref06_Spans k)))
def t10 (sf_ref06_Spans : D17 → Option D34) (f20 : T20) (f21 : T21) : T10 := fun x5 x6 m2 => (iteB (decide (m2.1 = (4 : Int))) (f20 x5 x6 (0 : Int)) (f21 x6))
def p10 (sf_ref06_Spans : D17 → Option D34) (k : Nat) : T10 := t10 sf_ref06_Spans (p20 sf_ref06_Spans k k) (p21 sf_ref06_Spans k)
theorem o10 (sf_ref06_Spans : D17 → Option D34) (k : Nat) : l10 sf_ref06_Spans true k = p10 sf_ref06_Spans k := lfo (b := l10 sf_ref06_Spans false k) (fx3 fun _ _ _ => lcR) (by kernel_rfl) (by have h := (congr (congrArg (t10 sf_ref06_Spans) (o20 sf_ref06_Spans k k)) (o21 sf_ref06_Spans k)); exact h)
def t8 (sf_ref06_Spans : D17 → Option D34) (f9 : T9) (f10 : T10) : T8 := fun x1 x5 x6 x10 m2 => (iteB (decide (x10 < ((List.length m2.2.2 : Nat) : Int))) (withinR x10 (List.length m2.2.2) fun q7 => (bindR (sf_ref06_Spans ((out0 (List.getD m2.2.2 q7 (pk0 ((0 : Int), ((List.replicate 4 (0 : Int)), ([] : List (N0))))))), (x1, ()))) fun r8 => (f9 x1 x5 x6 x10 r8.1 ([] : List (D8)) (0 : Int) m2))) (f10 x5 x6 m2))
def p8 (sf_ref06_Spans : D17 → Option D34) (k : Nat) : Nat → T8 := iter fun f => t8 sf_ref06_Spans (p9 sf_ref06_Spans k f k) (p10 sf_ref06_Spans k)
theorem o8 (sf_ref06_Spans : D17 → Option D34) (k : Nat) : ∀ n, l8 sf_ref06_Spans true k n = p8 sf_ref06_Spans k n := oL (u := l8 sf_ref06_Spans false k) (by kernel_rfl) (fun n8 => (fx5 fun _ _ _ _ _ => lcL)) (fun n8 => by kernel_rfl) (fun n8 f h => (congr (congrArg (t8 sf_ref06_Spans) (o9 sf_ref06_Spans k n8 f h k)) (o10 sf_ref06_Spans k)))
def t7 (sf_ref06_Spans : D17 → Option D34) (f8 : T8) : T7 := fun x1 x5 x6 m2 => (f8 x1 x5 x6 (0 : Int) m2)
def p7 (sf_ref06_Spans : D17 → Option D34) (k : Nat) : T7 := t7 sf_ref06_Spans (p8 sf_ref06_Spans k k)
theorem o7 (sf_ref06_Spans : D17 → Option D34) (k : Nat) : l7 sf_ref06_Spans true k = p7 sf_ref06_Spans k := lfo (b := l7 sf_ref06_Spans false k) (fx4 fun _ _ _ _ => lcR) (by kernel_rfl) (congrArg (t7 sf_ref06_Spans) (o8 sf_ref06_Spans k k))
def t6 (sf_ref06_Spans : D17 → Option D34) (f6 : T6) (f7 : T7) : T6 := fun x1 x5 x6 x9 m2 => (iteB (decide (x9 < x5)) (withinR x9 (List.length x6) fun q5 => (withinR x9 (List.length (List.getD x6 q5 ([] : List (Bool)))) fun q6 => (f6 x1 x5 (List.set x6 q5 (List.set (List.getD x6 q5 ([] : List (Bool))) q6 true)) (w64 (x9 + (1 : Int))) m2))) (f7 x1 x5 x6 m2))
def p6 (sf_ref06_Spans : D17 → Option D34) (k : Nat) : Nat → T6 := iter fun f => t6 sf_ref06_Spans f (p7 sf_ref06_Spans k)
theorem o6 (sf_ref06_Spans : D17 → Option D34) (k : Nat) : ∀ n, l6 sf_ref06_Spans true k n = p6 sf_ref06_Spans k n := oL (u := l6 sf_ref06_Spans false k) (by kernel_rfl) (fun n6 => (fx5 fun _ _ _ _ _ => lcL)) (fun n6 => by kernel_rfl) (fun n6 f h => (congr (congrArg (t6 sf_ref06_Spans) h) (o7 sf_ref06_Spans k)))
def t4 (sf_ref06_Spans : D17 → Option D34) (f6 : T6) (f7 : T7) : T4 := fun x1 x5 x6 m2 => (iteB (!decide (m2.1 = (3 : Int))) (f6 x1 x5 x6 (0 : Int) m2) (f7 x1 x5 x6 m2))
def p4 (sf_ref06_Spans : D17 → Option D34) (k : Nat) : T4 := t4 sf_ref06_Spans (p6 sf_ref06_Spans k k) (p7 sf_ref06_Spans k)
theorem o4 (sf_ref06_Spans : D17 → Option D34) (k : Nat) : l4 sf_ref06_Spans true k = p4 sf_ref06_Spans k := lfo (b := l4 sf_ref06_Spans false k) (fx4 fun _ _ _ _ => lcR) (by kernel_rfl) (by have h := (congr (congrArg (t4 sf_ref06_Spans) (o6 sf_ref06_Spans k k)) (o7 sf_ref06_Spans k)); exact h)
def t2 (sf_ref06_Spans : D17 → Option D34) (f3 : T3) (f4 : T4) : T2 := fun x1 x5 x6 m2 => (iteB (decide (m2.1 = (1 : Int))) (f3 x1 x6 (0 : Int) m2) (f4 x1 x5 x6 m2))
def p2 (sf_ref06_Spans : D17 → Option D34) (k : Nat) : T2 := t2 sf_ref06_Spans (p3 sf_ref06_Spans k k) (p4 sf_ref06_Spans k)
theorem o2 (sf_ref06_Spans : D17 → Option D34) (k : Nat) : l2 sf_ref06_Spans true k = p2 sf_ref06_Spans k := lfo (b := l2 sf_ref06_Spans false k) (fx4 fun _ _ _ _ => lcR) (by kernel_rfl) (by have h := (congr (congrArg (t2 sf_ref06_Spans) (o3 sf_ref06_Spans k k)) (o4 sf_ref06_Spans k)); exact h)
def t1 (sf_ref06_Spans : D17 → Option D34) (f1 : T1) (f2 : T2) : T1 := fun x1 x5 x6 x7 m2 => (iteB (decide (x7 < x5)) (mustR (decide (x5 = x5 ∧ (0 : Int) ≤ x5 ∧ x5 ≤ (16777216 : Int))) (mustR (room x6 ([(List.replicate (Int.toNat x5) false)] : List (D8))) (f1 x1 x5 (x6 ++ ([(List.replicate (Int.toNat x5) false)] : List (D8))) (w64 (x7 + (1 : Int))) m2))) (f2 x1 x5 x6 m2))
def p1 (sf_ref06_Spans : D17 → Option D34) (k : Nat) : Nat → T1 := iter fun f => t1 sf_ref06_Spans f (p2 sf_ref06_Spans k)
theorem o1 (sf_ref06_Spans : D17 → Option D34) (k : Nat) : ∀ n, l1 sf_ref06_Spans true k n = p1 sf_ref06_Spans k n := oL (u := l1 sf_ref06_Spans false k) (by kernel_rfl) (fun n1 => (fx5 fun _ _ _ _ _ => lcL)) (fun n1 => by kernel_rfl) (fun n1 f h => (congr (congrArg (t1 sf_ref06_Spans) h) (o2 sf_ref06_Spans k)))
def t0 (sf_ref06_Spans : D17 → Option D34) (f1 : T1) : T0 := fun a => (f1 a.2.1 (w64 (((List.length a.2.1 : Nat) : Int) + (1 : Int))) ([] : List (D8)) (0 : Int) a.1)
def p0 (sf_ref06_Spans : D17 → Option D34) (k : Nat) : T0 := t0 sf_ref06_Spans (p1 sf_ref06_Spans k k)
theorem o0 (sf_ref06_Spans : D17 → Option D34) (k : Nat) : u0 sf_ref06_Spans k = p0 sf_ref06_Spans k := Eq.trans (by kernel_rfl) (congrArg (t0 sf_ref06_Spans) (o1 sf_ref06_Spans k k))
end ref06_Spans
def r_ref06_Spans : Nat → D17 → Option D34
  | 0, _ => none
  | n + 1, a => ref06_Spans.p0 (r_ref06_Spans n) fuel a
theorem okr_ref06_Spans : ∀ n, FnOk Try.prog (Fr_ref06_Spans (r_ref06_Spans n)) 21
  | 0 => fn_none (fun _ => rfl)
  | n + 1 => fn_of (F := Fr_ref06_Spans (r_ref06_Spans (n + 1))) (hn := ref06_Spans.h) (E := ref06_Spans.E (r_ref06_Spans n)) cxOk (tysT _ _ _) (fs_cons (okr_ref06_Spans n) (fs_cons ok_ref05_Has fs_nil)) follows Try.func21 (by kernel_rfl) (fun a r h => ⟨fuel, Eq.trans (congrFun (ref06_Spans.o0 (r_ref06_Spans n) fuel) a) h⟩)
def s_ref06_Spans (a : D17) : Option D34 := r_ref06_Spans fuel a
def F_ref06_Spans : FSpec cx.toNm := Fr_ref06_Spans s_ref06_Spans
theorem ok_ref06_Spans : FnOk Try.prog F_ref06_Spans 21 := (okr_ref06_Spans fuel)
namespace ref06_Matches
def E : Env cx := { tys := tys, fs := fsOf [(21, F_ref06_Spans)] }
abbrev R := Option (D14)
def h : Hint := { vs := [0, 1, 2, 4], ret := ([4], [2]) }
def W : Pr cx (D14) := ⟨E, h, bodyC Try.f10, fin (S := cx) E Try.f10.results.toList .bool .ro [] []⟩
abbrev T0 := D17 → R
def u0 (k : Nat) : T0 := fun a => runOf (S := cx) E h k Try.f10 [.val t7, .val .str] .bool .ro a
def t0 : T0 := fun a => (bindR (s_ref06_Spans (a.1, (a.2.1, ()))) fun r1 => (withinR (0 : Int) (List.length r1.1) fun q2 => (withinR ((List.length a.2.1 : Nat) : Int) (List.length (List.getD r1.1 q2 ([] : List (Bool)))) fun q3 => (some ((List.getD (List.getD r1.1 q2 ([] : List (Bool))) q3 false), ())))))
def p0 (k : Nat) : T0 := t0
theorem o0 (k : Nat) : u0 k = p0 k := Eq.trans (by kernel_rfl) rfl
end ref06_Matches
def s_ref06_Matches (a : D17) : Option D14 := ref06_Matches.p0 fuel a
def F_ref06_Matches : FSpec cx.toNm := { ps := [.val t7, .val .str], nres := 1, rt := .bool, rm := .ro, f := s_ref06_Matches }
theorem ok_ref06_Matches : FnOk Try.prog F_ref06_Matches 10 := fn_of (F := F_ref06_Matches) (hn := ref06_Matches.h) (E := ref06_Matches.E) cxOk (tysT _ _ _) (fs_cons ok_ref06_Spans fs_nil) follows Try.func10 (by kernel_rfl) (fun a r h => ⟨fuel, (congrFun (ref06_Matches.o0 fuel) a).trans ((by kernel_rfl : s_ref06_Matches a = F_ref06_Matches.f a).trans h)⟩)
namespace law06_alive
def E : Env cx := { tys := tys, fs := fsOf [(6, F_Parse), (9, F_regex_Matches)] }
abbrev R := Option (D14)
def h : Hint := { vs := [0, 1, 2, 3, 4, 6, 8, 10, 12], ret := ([0], [1, 3, 5, 7, 9, 11]) }
def W : Pr cx (D14) := ⟨E, h, bodyC Try.f5, fin (S := cx) E Try.f5.results.toList .bool .ro [] []⟩
abbrev T0 := Unit → R
def u0 (k : Nat) : T0 := fun a => runOf (S := cx) E h k Try.f5 [] .bool .ro a
def t0 : T0 := fun a => (bindR (s_Parse (([97, 124, 98, 42] : List UInt8), ())) fun r1 => (bindR (s_Parse (([91, 97, 45, 99, 93, 43] : List UInt8), ())) fun r2 => (bindR (s_Parse (([42] : List UInt8), ())) fun r3 => (bindR (s_Parse (([91, 93] : List UInt8), ())) fun r4 => (bindR (s_Parse (([91, 98, 45, 97, 93] : List UInt8), ())) fun r5 => (bindR (s_Parse (([97, 92, 113] : List UInt8), ())) fun r6 => (iteB (decide (r1.1.2 = (0 : Int))) (iteB (decide (r2.1.2 = (0 : Int))) (bindR (s_regex_Matches (r1.1.1, (([97] : List UInt8), ()))) fun r7 => (iteB r7.1 (bindR (s_regex_Matches (r1.1.1, (([] : List UInt8), ()))) fun r8 => (iteB r8.1 (bindR (s_regex_Matches (r1.1.1, (([98, 98, 98] : List UInt8), ()))) fun r9 => (iteB r9.1 (bindR (s_regex_Matches (r1.1.1, (([97, 98] : List UInt8), ()))) fun r10 => (iteB (notB r10.1) (bindR (s_regex_Matches (r2.1.1, (([99, 97, 98] : List UInt8), ()))) fun r11 => (iteB r11.1 (iteB (decide (r3.1.2 = (20 : Int))) (iteB (decide (r4.1.2 = (20 : Int))) (iteB (decide (r5.1.2 = (20 : Int))) (some ((decide (r6.1.2 = (20 : Int))), ())) (some (false, ()))) (some (false, ()))) (some (false, ()))) (some (false, ())))) (some (false, ())))) (some (false, ())))) (some (false, ())))) (some (false, ())))) (some (false, ()))) (some (false, ())))))))))
def p0 (k : Nat) : T0 := t0
theorem o0 (k : Nat) : u0 k = p0 k := Eq.trans (by kernel_rfl) rfl
end law06_alive
def s_law06_alive (a : Unit) : Option D14 := law06_alive.p0 fuel a
def F_law06_alive : FSpec cx.toNm := { ps := [], nres := 1, rt := .bool, rm := .ro, f := s_law06_alive }
theorem ok_law06_alive : FnOk Try.prog F_law06_alive 5 := fn_of (F := F_law06_alive) (hn := law06_alive.h) (E := law06_alive.E) cxOk (tysT _ _ _) (fs_cons ok_Parse (fs_cons ok_regex_Matches fs_nil)) follows Try.func5 (by kernel_rfl) (fun a r h => ⟨fuel, (congrFun (law06_alive.o0 fuel) a).trans ((by kernel_rfl : s_law06_alive a = F_law06_alive.f a).trans h)⟩)
namespace law06_RegexTexts
def E : Env cx := { tys := tys, fs := fsOf [(5, F_law06_alive), (6, F_Parse), (7, F_ref06_Parse), (8, F_ref06_Count), (9, F_regex_Matches), (10, F_ref06_Matches)] }
abbrev R := Option (D14)
def h : Hint := { vs := [0, 1, 4, 5, 6, 7, 8], ret := ([4], [5, 7]), ords := [(11, [0, 1, 2, 3, 4, 6, 7, 5, 8, 9, 10, 11])] }
def W : Pr cx (D14) := ⟨E, h, bodyC Try.f3, fin (S := cx) E Try.f3.results.toList .bool .ro [] []⟩
abbrev T0 := D16 → R
def u0 (k : Nat) : T0 := fun a => runOf (S := cx) E h k Try.f3 [.val .str, .val .str] .bool .ro a
def t0 : T0 := fun a => (bindR (s_law06_alive ()) fun r1 => (iteB (notB r1.1) (some (false, ())) (iteB (decide ((30 : Int) < ((List.length a.2.1 : Nat) : Int))) (some (true, ())) (bindR (s_Parse (a.1, ())) fun r2 => (bindR (s_ref06_Parse (a.1, ())) fun r3 => (iteB (!decide (r3.1.2 = (0 : Int))) (some ((decide (r2.1.2 = r3.1.2)), ())) (bindR (s_ref06_Count (r3.1.1, ((1 : Int), ()))) fun r4 => (iteB (decide ((100 : Int) < r4.1)) (some ((decide (r2.1.2 = (0 : Int))), ())) (iteB (decide (r2.1.2 = (0 : Int))) (bindR (s_regex_Matches (r2.1.1, (a.2.1, ()))) fun r5 => (bindR (s_ref06_Matches (r3.1.1, (a.2.1, ()))) fun r6 => (some ((r5.1 == r6.1), ())))) (some (false, ())))))))))))
def p0 (k : Nat) : T0 := t0
theorem o0 (k : Nat) : u0 k = p0 k := Eq.trans (by kernel_rfl) rfl
end law06_RegexTexts
def s_law06_RegexTexts (a : D16) : Option D14 := law06_RegexTexts.p0 fuel a
def F_law06_RegexTexts : FSpec cx.toNm := { ps := [.val .str, .val .str], nres := 1, rt := .bool, rm := .ro, f := s_law06_RegexTexts }
theorem ok_law06_RegexTexts : FnOk Try.prog F_law06_RegexTexts 3 := fn_of (F := F_law06_RegexTexts) (hn := law06_RegexTexts.h) (E := law06_RegexTexts.E) cxOk (tysT _ _ _) (fs_cons ok_law06_alive (fs_cons ok_Parse (fs_cons ok_ref06_Parse (fs_cons ok_ref06_Count (fs_cons ok_regex_Matches (fs_cons ok_ref06_Matches fs_nil)))))) follows Try.func3 (by kernel_rfl) (fun a r h => ⟨fuel, (congrFun (law06_RegexTexts.o0 fuel) a).trans ((by kernel_rfl : s_law06_RegexTexts a = F_law06_RegexTexts.f a).trans h)⟩)
end
end Go.Proofs.Ytndffgpoljojaaa.Vm.Rx
