/- What the functions that read an expression compute, as plain functions; that they do. -/
import Derived.Test.YtndffgpoljojaaaLib
import Derived.KernelRfl
import Derived.Tactics
import Derived.Tactics2
import Derived.Defers
import Derived.Recover
import Derived.Laws.Pointers
namespace Go.Proofs.Ytndffgpoljojaaa.Vm.Rx
open Go Go.Proofs.Ytndffgpoljojaaa.Vm Go.Proofs
set_option linter.unusedVariables false
set_option maxRecDepth 100000
noncomputable section
namespace regex_group
def E : Env cx := { tys := tys, fs := fsOf [] }
abbrev R := Option (D21)
def h : Hint := { vs := [0, 1, 4], ret := ([4], [4]) }
def W : Pr cx (D21) := ⟨E, h, bodyC Try.f28, fin (S := cx) E Try.f28.results.toList t7 .ro [] []⟩
abbrev T0 := D23 → R
def u0 (k : Nat) : T0 := fun a => runOf (S := cx) E h k Try.f28 [.val (.int .u8), .val t4] t7 .ro a
def t0 : T0 := fun a => (iteB (decide (((List.length a.2.1 : Nat) : Int) = (1 : Int))) (withinR (0 : Int) (List.length a.2.1) fun q1 => (some ((out0 (List.getD a.2.1 q1 (pk0 ((0 : Int), ((List.replicate 4 (0 : Int)), ([] : List (N0))))))), ()))) (some ((a.1, ((List.replicate 4 (0 : Int)), a.2.1)), ())))
def p0 (k : Nat) : T0 := t0
theorem o0 (k : Nat) : u0 k = p0 k := Eq.trans (by kernel_rfl) rfl
end regex_group
def s_regex_group (a : D23) : Option D21 := regex_group.p0 fuel a
def F_regex_group : FSpec cx.toNm := { ps := [.val (.int .u8), .val t4], nres := 1, rt := t7, rm := .ro, f := s_regex_group }
theorem ok_regex_group : FnOk Try.prog F_regex_group 28 := fn_of (F := F_regex_group) (hn := regex_group.h) (E := regex_group.E) cxOk (tysT _ _ _) fs_nil follows Try.func28 (by kernel_rfl) (fun a r h => ⟨fuel, (congrFun (regex_group.o0 fuel) a).trans ((by kernel_rfl : s_regex_group a = F_regex_group.f a).trans h)⟩)
namespace bytesets_put
def E : Env cx := { tys := tys, fs := fsOf [] }
abbrev R := Option (D46)
def h : Hint := { vs := [0, 1], ret := ([0], [1000000]), nil := [(0, (.own .ro))] }
def W : Pr cx (D46) := ⟨E, h, bodyC Try.f72, fin (S := cx) E Try.f72.results.toList .unit .ro [1000000] [(t3, .ro)]⟩
abbrev T0 := D38 → R
def u0 (k : Nat) : T0 := fun a => runOf (S := cx) E h k Try.f72 [.io t3 .ro, .val (.int .u8)] .unit .ro a
def t0 : T0 := fun a => (withinR (w8 (Int.tdiv a.2.1 (64 : Int))) 4 fun q1 => (mustR (decide (0 ≤ (Int.tmod a.2.1 (64 : Int)))) (withinR (w8 (Int.tdiv a.2.1 (64 : Int))) 4 fun q2 => (some ((), ((List.set a.1 q2 (bitI .or .u64 (List.getD a.1 q1 (0 : Int)) (shlI .u64 (1 : Int) (Int.tmod a.2.1 (64 : Int))))), ()))))))
def p0 (k : Nat) : T0 := t0
theorem o0 (k : Nat) : u0 k = p0 k := Eq.trans (by kernel_rfl) rfl
end bytesets_put
def s_bytesets_put (a : D38) : Option D46 := bytesets_put.p0 fuel a
def F_bytesets_put : FSpec cx.toNm := { ps := [.io t3 .ro, .val (.int .u8)], nres := 0, rt := .unit, rm := .ro, f := s_bytesets_put }
theorem ok_bytesets_put : FnOk Try.prog F_bytesets_put 72 := fn_of (F := F_bytesets_put) (hn := bytesets_put.h) (E := bytesets_put.E) cxOk (tysT _ _ _) fs_nil follows Try.func72 (by kernel_rfl) (fun a r h => ⟨fuel, (congrFun (bytesets_put.o0 fuel) a).trans ((by kernel_rfl : s_bytesets_put a = F_bytesets_put.f a).trans h)⟩)
namespace bytesets_Range_1
def E : Env cx := { tys := tys, fs := fsOf [] }
abbrev R := Option (D14)
def h : Hint := { vs := [0, 1, 2, 4], ret := ([4], []) }
def W : Pr cx (D14) := ⟨E, h, bodyC Try.f76, fin (S := cx) E Try.f76.results.toList .bool .ro [] []⟩
abbrev T0 := D49 → R
def u0 (k : Nat) : T0 := fun a => runOf (S := cx) E h k Try.f76 [.val (.int .u8), .val t23, .val t23] .bool .ro a
def t0 : T0 := fun a => (iteB (decide (a.2.1 ≤ a.1)) (some ((decide (a.1 ≤ a.2.2.1)), ())) (some (false, ())))
def p0 (k : Nat) : T0 := t0
theorem o0 (k : Nat) : u0 k = p0 k := Eq.trans (by kernel_rfl) rfl
end bytesets_Range_1
def s_bytesets_Range_1 (a : D49) : Option D14 := bytesets_Range_1.p0 fuel a
def F_bytesets_Range_1 : FSpec cx.toNm := { ps := [.val (.int .u8), .val t23, .val t23], nres := 1, rt := .bool, rm := .ro, f := s_bytesets_Range_1 }
theorem ok_bytesets_Range_1 : FnOk Try.prog F_bytesets_Range_1 76 := fn_of (F := F_bytesets_Range_1) (hn := bytesets_Range_1.h) (E := bytesets_Range_1.E) cxOk (tysT _ _ _) fs_nil follows Try.func76 (by kernel_rfl) (fun a r h => ⟨fuel, (congrFun (bytesets_Range_1.o0 fuel) a).trans ((by kernel_rfl : s_bytesets_Range_1 a = F_bytesets_Range_1.f a).trans h)⟩)
namespace bytesets_those
def E : Env cx := { tys := tys, fs := fsOf [(72, F_bytesets_put), (76, F_bytesets_Range_1)] }
abbrev R := Option (D43)
def h : Hint := { vs := [0, 2, 3, 4, 5], ret := ([2], [2, 3]), cuts := [(3, ([0, 2, 3, 5], [2, 3]), ([2, 3], [2, 3])), (7, ([0, 2, 3, 5], [2, 3]), ([0, 2, 3, 5], [2, 3])), (8, ([2, 3], [2, 3]), ([2, 3], [2, 3]))] }
def W : Pr cx (D43) := ⟨E, h, bodyC Try.f75, fin (S := cx) E Try.f75.results.toList t3 .ro [] []⟩
abbrev T2 := D45 → Int → (List Int) → (List Int) → R
abbrev T3 := (List Int) → (List Int) → R
abbrev T1 := D45 → Int → (List Int) → (List Int) → R
abbrev T0 := D48 → R
def u0 (k : Nat) : T0 := fun a => runOf (S := cx) E h k Try.f75 [.val t26] t3 .ro a
abbrev l2 (c : Bool) (k n1 : Nat) : T2 := fun x0 x5 m2 m3 => lfR c W k [1, 1, 0, 1, 0, 0, 1, 1, 1] [n1] ⟨[(0, vR t26 x0), (2, vA 2), (3, vA 3), (5, vI x5)], [], [(2, ⟨t3, .ro, m2⟩), (3, ⟨t3, .ro, m3⟩)]⟩
abbrev l3 (c : Bool) (k : Nat) : T3 := fun m2 m3 => lfR c W k [1, 1, 1] [] ⟨[(2, vA 2), (3, vA 3)], [], [(2, ⟨t3, .ro, m2⟩), (3, ⟨t3, .ro, m3⟩)]⟩
abbrev l1 (c : Bool) (k n1 : Nat) : T1 := fun x0 x5 m2 m3 => lfL c W k [1, 1, 0, 1, 0] [] n1 ⟨[(0, vR t26 x0), (2, vA 2), (3, vA 3), (5, vI x5)], [], [(2, ⟨t3, .ro, m2⟩), (3, ⟨t3, .ro, m3⟩)]⟩
def t2 (f1 : T1) : T2 := fun x0 x5 m2 m3 => (f1 x0 (w64 (x5 + (1 : Int))) m2 m3)
def p2 (k : Nat) (a1 : T1) : T2 := t2 a1
theorem o2 (k n1 : Nat) (a1 : T1) (h1 : l1 true k n1 = a1) : l2 true k n1 = p2 k a1 := lfo (b := l2 false k n1) (fx4 fun _ _ _ _ => lcR) (by kernel_rfl) (congrArg t2 h1)
def t3 : T3 := fun m2 m3 => (some (m3, ()))
def p3 (k : Nat) : T3 := t3
theorem o3 (k : Nat) : l3 true k = p3 k := lfo (b := l3 false k) (fx2 fun _ _ => lcR) (by kernel_rfl) rfl
def t1 (f2 : T2) (f3 : T3) : T1 := fun x0 x5 m2 m3 => (iteB (decide (x5 < (256 : Int))) (bindR (s_bytesets_Range_1 ((w8 (x5)), (x0.1, (x0.2.1, ())))) fun r1 => (iteB r1.1 (bindR (s_bytesets_put (m3, ((w8 (x5)), ()))) fun r2 => (f2 x0 x5 m2 r2.2.1)) (f2 x0 x5 m2 m3))) (f3 m2 m3))
def p1 (k : Nat) : Nat → T1 := iter fun f => t1 (p2 k f) (p3 k)
theorem o1 (k : Nat) : ∀ n, l1 true k n = p1 k n := oL (u := l1 false k) (by kernel_rfl) (fun n1 => (fx4 fun _ _ _ _ => lcL)) (fun n1 => by kernel_rfl) (fun n1 f h => (congr (congrArg t1 (o2 k n1 f h)) (o3 k)))
def t0 (f1 : T1) : T0 := fun a => (f1 a.1 (0 : Int) (List.replicate 4 (0 : Int)) (List.replicate 4 (0 : Int)))
def p0 (k : Nat) : T0 := t0 (p1 k k)
theorem o0 (k : Nat) : u0 k = p0 k := Eq.trans (by kernel_rfl) (congrArg t0 (o1 k k))
end bytesets_those
def s_bytesets_those (a : D48) : Option D43 := bytesets_those.p0 fuel a
def F_bytesets_those : FSpec cx.toNm := { ps := [.val t26], nres := 1, rt := t3, rm := .ro, f := s_bytesets_those }
theorem ok_bytesets_those : FnOk Try.prog F_bytesets_those 75 := fn_of (F := F_bytesets_those) (hn := bytesets_those.h) (E := bytesets_those.E) cxOk (tysT _ _ _) (fs_cons ok_bytesets_put (fs_cons ok_bytesets_Range_1 fs_nil)) follows Try.func75 (by kernel_rfl) (fun a r h => ⟨fuel, (congrFun (bytesets_those.o0 fuel) a).trans ((by kernel_rfl : s_bytesets_those a = F_bytesets_those.f a).trans h)⟩)
namespace bytesets_Range
def E : Env cx := { tys := tys, fs := fsOf [(75, F_bytesets_those)] }
abbrev R := Option (D43)
def h : Hint := { vs := [0, 1, 2, 3, 4], ret := ([4], [2, 3, 4]) }
def W : Pr cx (D43) := ⟨E, h, bodyC Try.f69, fin (S := cx) E Try.f69.results.toList t3 .ro [] []⟩
abbrev T0 := D45 → R
def u0 (k : Nat) : T0 := fun a => runOf (S := cx) E h k Try.f69 [.val (.int .u8), .val (.int .u8)] t3 .ro a
def t0 : T0 := fun a => (bindR (s_bytesets_those ((a.1, (a.2.1, ())), ())) fun r1 => (some (r1.1, ())))
def p0 (k : Nat) : T0 := t0
theorem o0 (k : Nat) : u0 k = p0 k := Eq.trans (by kernel_rfl) rfl
end bytesets_Range
def s_bytesets_Range (a : D45) : Option D43 := bytesets_Range.p0 fuel a
def F_bytesets_Range : FSpec cx.toNm := { ps := [.val (.int .u8), .val (.int .u8)], nres := 1, rt := t3, rm := .ro, f := s_bytesets_Range }
theorem ok_bytesets_Range : FnOk Try.prog F_bytesets_Range 69 := fn_of (F := F_bytesets_Range) (hn := bytesets_Range.h) (E := bytesets_Range.E) cxOk (tysT _ _ _) (fs_cons ok_bytesets_those fs_nil) follows Try.func69 (by kernel_rfl) (fun a r h => ⟨fuel, (congrFun (bytesets_Range.o0 fuel) a).trans ((by kernel_rfl : s_bytesets_Range a = F_bytesets_Range.f a).trans h)⟩)
namespace bytesets_Not
def E : Env cx := { tys := tys, fs := fsOf [] }
abbrev R := Option (D43)
def h : Hint := { vs := [0, 1, 2, 3, 4], ret := ([2], [1, 2]), nil := [(0, (.own .ro))], cuts := [(2, ([1, 2, 4], [1, 2]), ([1, 2], [1, 2])), (6, ([1, 2], [1, 2]), ([1, 2], [1, 2]))] }
def W : Pr cx (D43) := ⟨E, h, bodyC Try.f78, fin (S := cx) E Try.f78.results.toList t3 .ro [] []⟩
abbrev T2 := (List Int) → (List Int) → R
abbrev T1 := Int → (List Int) → (List Int) → R
abbrev T0 := D43 → R
def u0 (k : Nat) : T0 := fun a => runOf (S := cx) E h k Try.f78 [.val t3] t3 .ro a
abbrev l2 (c : Bool) (k : Nat) : T2 := fun m1 m2 => lfR c W k [1, 1] [] ⟨[(1, vA 1), (2, vA 2)], [], [(1, ⟨t3, .ro, m1⟩), (2, ⟨t3, .ro, m2⟩)]⟩
abbrev l1 (c : Bool) (k n1 : Nat) : T1 := fun x4 m1 m2 => lfL c W k [1, 0, 1, 0] [] n1 ⟨[(1, vA 1), (2, vA 2), (4, vI x4)], [], [(1, ⟨t3, .ro, m1⟩), (2, ⟨t3, .ro, m2⟩)]⟩
def t2 : T2 := fun m1 m2 => (some (m1, ()))
def p2 (k : Nat) : T2 := t2
theorem o2 (k : Nat) : l2 true k = p2 k := lfo (b := l2 false k) (fx2 fun _ _ => lcR) (by kernel_rfl) rfl
def t1 (f1 : T1) (f2 : T2) : T1 := fun x4 m1 m2 => (iteB (decide (x4 < (4 : Int))) (withinR x4 4 fun q1 => (withinR x4 4 fun q2 => (f1 (w64 (x4 + (1 : Int))) (List.set m1 q2 (notI .u64 (List.getD m1 q1 (0 : Int)))) m2))) (f2 m1 m2))
def p1 (k : Nat) : Nat → T1 := iter fun f => t1 f (p2 k)
theorem o1 (k : Nat) : ∀ n, l1 true k n = p1 k n := oL (u := l1 false k) (by kernel_rfl) (fun n1 => (fx3 fun _ _ _ => lcL)) (fun n1 => by kernel_rfl) (fun n1 f h => (congr (congrArg t1 h) (o2 k)))
def t0 (f1 : T1) : T0 := fun a => (f1 (0 : Int) a.1 (List.replicate 4 (0 : Int)))
def p0 (k : Nat) : T0 := t0 (p1 k k)
theorem o0 (k : Nat) : u0 k = p0 k := Eq.trans (by kernel_rfl) (congrArg t0 (o1 k k))
end bytesets_Not
def s_bytesets_Not (a : D43) : Option D43 := bytesets_Not.p0 fuel a
def F_bytesets_Not : FSpec cx.toNm := { ps := [.val t3], nres := 1, rt := t3, rm := .ro, f := s_bytesets_Not }
theorem ok_bytesets_Not : FnOk Try.prog F_bytesets_Not 78 := fn_of (F := F_bytesets_Not) (hn := bytesets_Not.h) (E := bytesets_Not.E) cxOk (tysT _ _ _) fs_nil follows Try.func78 (by kernel_rfl) (fun a r h => ⟨fuel, (congrFun (bytesets_Not.o0 fuel) a).trans ((by kernel_rfl : s_bytesets_Not a = F_bytesets_Not.f a).trans h)⟩)
namespace bytesets_Or
def E : Env cx := { tys := tys, fs := fsOf [] }
abbrev R := Option (D43)
def h : Hint := { vs := [0, 2, 3, 5, 6, 7, 8, 9, 10, 14, 15], ret := ([2], [2, 3, 5]), cuts := [(3, ([2, 3, 8, 9, 10], [2, 3]), ([2, 3], [2, 3])), (6, ([2, 3, 8, 9, 10, 14, 15], [2, 3]), ([2, 3, 8, 9, 10], [2, 3])), (10, ([2, 3, 8, 9, 10], [2, 3]), ([2, 3, 8, 9, 10], [2, 3])), (11, ([2, 3], [2, 3]), ([2, 3], [2, 3]))] }
def W : Pr cx (D43) := ⟨E, h, bodyC Try.f68, fin (S := cx) E Try.f68.results.toList t3 .ro [] []⟩
abbrev T4 := D3 → Int → Int → (List Int) → (List Int) → R
abbrev T2 := D3 → Int → Int → (List Int) → Int → (List Int) → (List Int) → R
abbrev T3 := (List Int) → (List Int) → R
abbrev T1 := D3 → Int → Int → (List Int) → (List Int) → R
abbrev T0 := D29 → R
def u0 (k : Nat) : T0 := fun a => runOf (S := cx) E h k Try.f68 [.val t15] t3 .ro a
abbrev l4 (c : Bool) (k n1 : Nat) : T4 := fun x8 x9 x10 m2 m3 => lfR c W k [1, 1, 0, 1, 0, 0, 1, 1, 1] [n1] ⟨[(2, vA 2), (3, vA 3), (8, vR t15 x8), (9, vI x9), (10, vI x10)], [], [(2, ⟨t3, .ro, m2⟩), (3, ⟨t3, .ro, m3⟩)]⟩
abbrev l2 (c : Bool) (k n1 n2 : Nat) : T2 := fun x8 x9 x10 x14 x15 m2 m3 => lfL c W k [1, 1, 0, 1, 0, 0, 1, 1, 0, 0, 1, 1, 0] [n1] n2 ⟨[(2, vA 2), (3, vA 3), (8, vR t15 x8), (9, vI x9), (10, vI x10), (14, vR t3 x14), (15, vI x15)], [], [(2, ⟨t3, .ro, m2⟩), (3, ⟨t3, .ro, m3⟩)]⟩
abbrev l3 (c : Bool) (k : Nat) : T3 := fun m2 m3 => lfR c W k [1, 1, 1] [] ⟨[(2, vA 2), (3, vA 3)], [], [(2, ⟨t3, .ro, m2⟩), (3, ⟨t3, .ro, m3⟩)]⟩
abbrev l1 (c : Bool) (k n1 : Nat) : T1 := fun x8 x9 x10 m2 m3 => lfL c W k [1, 1, 0, 1, 0] [] n1 ⟨[(2, vA 2), (3, vA 3), (8, vR t15 x8), (9, vI x9), (10, vI x10)], [], [(2, ⟨t3, .ro, m2⟩), (3, ⟨t3, .ro, m3⟩)]⟩
def t4 (f1 : T1) : T4 := fun x8 x9 x10 m2 m3 => (f1 x8 x9 (w64 (x10 + (1 : Int))) m2 m3)
def p4 (k : Nat) (a1 : T1) : T4 := t4 a1
theorem o4 (k n1 : Nat) (a1 : T1) (h1 : l1 true k n1 = a1) : l4 true k n1 = p4 k a1 := lfo (b := l4 false k n1) (fx5 fun _ _ _ _ _ => lcR) (by kernel_rfl) (congrArg t4 h1)
def t2 (f2 : T2) (f4 : T4) : T2 := fun x8 x9 x10 x14 x15 m2 m3 => (iteB (decide (x15 < (4 : Int))) (withinR x15 4 fun q2 => (withinR x15 4 fun q3 => (withinR x15 4 fun q4 => (f2 x8 x9 x10 x14 (w64 (x15 + (1 : Int))) m2 (List.set m3 q4 (bitI .or .u64 (List.getD m3 q3 (0 : Int)) (List.getD x14 q2 (0 : Int)))))))) (f4 x8 x9 x10 m2 m3))
def p2 (k : Nat) (a1 : T1) : Nat → T2 := iter fun f => t2 f (p4 k a1)
theorem o2 (k n1 : Nat) (a1 : T1) (h1 : l1 true k n1 = a1) : ∀ n, l2 true k n1 n = p2 k a1 n := oL (u := l2 false k n1) (by kernel_rfl) (fun n2 => (fx7 fun _ _ _ _ _ _ _ => lcL)) (fun n2 => by kernel_rfl) (fun n2 f h => (congr (congrArg t2 h) (o4 k n1 a1 h1)))
def t3 : T3 := fun m2 m3 => (some (m3, ()))
def p3 (k : Nat) : T3 := t3
theorem o3 (k : Nat) : l3 true k = p3 k := lfo (b := l3 false k) (fx2 fun _ _ => lcR) (by kernel_rfl) rfl
def t1 (f2 : T2) (f3 : T3) : T1 := fun x8 x9 x10 m2 m3 => (iteB (decide (x10 < x9)) (withinR x10 (List.length x8) fun q1 => (f2 x8 x9 x10 (List.getD x8 q1 (List.replicate 4 (0 : Int))) (0 : Int) m2 m3)) (f3 m2 m3))
def p1 (k : Nat) : Nat → T1 := iter fun f => t1 (p2 k f k) (p3 k)
theorem o1 (k : Nat) : ∀ n, l1 true k n = p1 k n := oL (u := l1 false k) (by kernel_rfl) (fun n1 => (fx5 fun _ _ _ _ _ => lcL)) (fun n1 => by kernel_rfl) (fun n1 f h => (congr (congrArg t1 (o2 k n1 f h k)) (o3 k)))
def t0 (f1 : T1) : T0 := fun a => (f1 a.1 ((List.length a.1 : Nat) : Int) (0 : Int) (List.replicate 4 (0 : Int)) (List.replicate 4 (0 : Int)))
def p0 (k : Nat) : T0 := t0 (p1 k k)
theorem o0 (k : Nat) : u0 k = p0 k := Eq.trans (by kernel_rfl) (congrArg t0 (o1 k k))
end bytesets_Or
def s_bytesets_Or (a : D29) : Option D43 := bytesets_Or.p0 fuel a
def F_bytesets_Or : FSpec cx.toNm := { ps := [.val t15], nres := 1, rt := t3, rm := .ro, f := s_bytesets_Or }
theorem ok_bytesets_Or : FnOk Try.prog F_bytesets_Or 68 := fn_of (F := F_bytesets_Or) (hn := bytesets_Or.h) (E := bytesets_Or.E) cxOk (tysT _ _ _) fs_nil follows Try.func68 (by kernel_rfl) (fun a r h => ⟨fuel, (congrFun (bytesets_Or.o0 fuel) a).trans ((by kernel_rfl : s_bytesets_Or a = F_bytesets_Or.f a).trans h)⟩)
namespace bytesets_And
def E : Env cx := { tys := tys, fs := fsOf [(68, F_bytesets_Or), (78, F_bytesets_Not)] }
abbrev R := Option (D43)
def h : Hint := { vs := [0, 1, 2, 3, 4], ret := ([4], [2, 3, 4]), ords := [(1, [0, 2, 1, 3, 4, 5, 6, 7])] }
def W : Pr cx (D43) := ⟨E, h, bodyC Try.f77, fin (S := cx) E Try.f77.results.toList t3 .ro [] []⟩
abbrev T0 := D47 → R
def u0 (k : Nat) : T0 := fun a => runOf (S := cx) E h k Try.f77 [.val t3, .val t3] t3 .ro a
def t0 : T0 := fun a => (bindR (s_bytesets_Not (a.1, ())) fun r1 => (bindR (s_bytesets_Not (a.2.1, ())) fun r2 => (bindR (s_bytesets_Or (([r1.1, r2.1] : List (List Int)), ())) fun r3 => (bindR (s_bytesets_Not (r3.1, ())) fun r4 => (some (r4.1, ()))))))
def p0 (k : Nat) : T0 := t0
theorem o0 (k : Nat) : u0 k = p0 k := Eq.trans (by kernel_rfl) rfl
end bytesets_And
def s_bytesets_And (a : D47) : Option D43 := bytesets_And.p0 fuel a
def F_bytesets_And : FSpec cx.toNm := { ps := [.val t3, .val t3], nres := 1, rt := t3, rm := .ro, f := s_bytesets_And }
theorem ok_bytesets_And : FnOk Try.prog F_bytesets_And 77 := fn_of (F := F_bytesets_And) (hn := bytesets_And.h) (E := bytesets_And.E) cxOk (tysT _ _ _) (fs_cons ok_bytesets_Or (fs_cons ok_bytesets_Not fs_nil)) follows Try.func77 (by kernel_rfl) (fun a r h => ⟨fuel, (congrFun (bytesets_And.o0 fuel) a).trans ((by kernel_rfl : s_bytesets_And a = F_bytesets_And.f a).trans h)⟩)
namespace bytesets_Less
def E : Env cx := { tys := tys, fs := fsOf [(77, F_bytesets_And), (78, F_bytesets_Not)] }
abbrev R := Option (D43)
def h : Hint := { vs := [0, 1, 2, 3, 4], ret := ([4], [2, 3, 4]) }
def W : Pr cx (D43) := ⟨E, h, bodyC Try.f71, fin (S := cx) E Try.f71.results.toList t3 .ro [] []⟩
abbrev T0 := D47 → R
def u0 (k : Nat) : T0 := fun a => runOf (S := cx) E h k Try.f71 [.val t3, .val t3] t3 .ro a
def t0 : T0 := fun a => (bindR (s_bytesets_Not (a.2.1, ())) fun r1 => (bindR (s_bytesets_And (a.1, (r1.1, ()))) fun r2 => (some (r2.1, ()))))
def p0 (k : Nat) : T0 := t0
theorem o0 (k : Nat) : u0 k = p0 k := Eq.trans (by kernel_rfl) rfl
end bytesets_Less
def s_bytesets_Less (a : D47) : Option D43 := bytesets_Less.p0 fuel a
def F_bytesets_Less : FSpec cx.toNm := { ps := [.val t3, .val t3], nres := 1, rt := t3, rm := .ro, f := s_bytesets_Less }
theorem ok_bytesets_Less : FnOk Try.prog F_bytesets_Less 71 := fn_of (F := F_bytesets_Less) (hn := bytesets_Less.h) (E := bytesets_Less.E) cxOk (tysT _ _ _) (fs_cons ok_bytesets_And (fs_cons ok_bytesets_Not fs_nil)) follows Try.func71 (by kernel_rfl) (fun a r h => ⟨fuel, (congrFun (bytesets_Less.o0 fuel) a).trans ((by kernel_rfl : s_bytesets_Less a = F_bytesets_Less.f a).trans h)⟩)
namespace regex_one
def E : Env cx := { tys := tys, fs := fsOf [] }
abbrev R := Option (D21)
def h : Hint := { vs := [0, 1, 2], ret := ([2], [1, 2]) }
def W : Pr cx (D21) := ⟨E, h, bodyC Try.f70, fin (S := cx) E Try.f70.results.toList t7 .ro [] []⟩
abbrev T0 := D43 → R
def u0 (k : Nat) : T0 := fun a => runOf (S := cx) E h k Try.f70 [.val t3] t7 .ro a
def t0 : T0 := fun a => (some (((1 : Int), (a.1, ([] : List (N0)))), ()))
def p0 (k : Nat) : T0 := t0
theorem o0 (k : Nat) : u0 k = p0 k := Eq.trans (by kernel_rfl) rfl
end regex_one
def s_regex_one (a : D43) : Option D21 := regex_one.p0 fuel a
def F_regex_one : FSpec cx.toNm := { ps := [.val t3], nres := 1, rt := t7, rm := .ro, f := s_regex_one }
theorem ok_regex_one : FnOk Try.prog F_regex_one 70 := fn_of (F := F_regex_one) (hn := regex_one.h) (E := regex_one.E) cxOk (tysT _ _ _) fs_nil follows Try.func70 (by kernel_rfl) (fun a r h => ⟨fuel, (congrFun (regex_one.o0 fuel) a).trans ((by kernel_rfl : s_regex_one a = F_regex_one.f a).trans h)⟩)
namespace regex_anyBut
def E : Env cx := { tys := tys, fs := fsOf [(28, F_regex_group), (69, F_bytesets_Range), (70, F_regex_one), (71, F_bytesets_Less)] }
abbrev R := Option (D21)
def h : Hint := { vs := [0, 1, 2, 3], ret := ([2], [1, 2, 3]), ords := [(2, [1, 6, 11, 12, 17, 18, 19, 0, 2, 3, 4, 5, 7, 8, 9, 10, 13, 14, 15, 16, 20, 21, 22, 23, 24])] }
def W : Pr cx (D21) := ⟨E, h, bodyC Try.f59, fin (S := cx) E Try.f59.results.toList t7 .ro [] []⟩
abbrev T0 := D43 → R
def u0 (k : Nat) : T0 := fun a => runOf (S := cx) E h k Try.f59 [.val t3] t7 .ro a
def t0 : T0 := fun a => (bindR (s_bytesets_Range ((128 : Int), ((191 : Int), ()))) fun r1 => (bindR (s_regex_one (r1.1, ())) fun r2 => (bindR (s_bytesets_Range ((0 : Int), ((127 : Int), ()))) fun r3 => (bindR (s_bytesets_Less (r3.1, (a.1, ()))) fun r4 => (bindR (s_regex_one (r4.1, ())) fun r5 => (bindR (s_bytesets_Range ((194 : Int), ((223 : Int), ()))) fun r6 => (bindR (s_regex_one (r6.1, ())) fun r7 => (bindR (s_regex_group ((2 : Int), (([(pk0 r7.1), (pk0 r2.1)] : List (N0)), ()))) fun r8 => (bindR (s_bytesets_Range ((224 : Int), ((239 : Int), ()))) fun r9 => (bindR (s_regex_one (r9.1, ())) fun r10 => (bindR (s_regex_group ((2 : Int), (([(pk0 r10.1), (pk0 r2.1), (pk0 r2.1)] : List (N0)), ()))) fun r11 => (bindR (s_bytesets_Range ((240 : Int), ((244 : Int), ()))) fun r12 => (bindR (s_regex_one (r12.1, ())) fun r13 => (bindR (s_regex_group ((2 : Int), (([(pk0 r13.1), (pk0 r2.1), (pk0 r2.1), (pk0 r2.1)] : List (N0)), ()))) fun r14 => (bindR (s_regex_group ((3 : Int), (([(pk0 r5.1), (pk0 r8.1), (pk0 r11.1), (pk0 r14.1)] : List (N0)), ()))) fun r15 => (some (r15.1, ())))))))))))))))))
def p0 (k : Nat) : T0 := t0
theorem o0 (k : Nat) : u0 k = p0 k := Eq.trans (by kernel_rfl) rfl
end regex_anyBut
def s_regex_anyBut (a : D43) : Option D21 := regex_anyBut.p0 fuel a
def F_regex_anyBut : FSpec cx.toNm := { ps := [.val t3], nres := 1, rt := t7, rm := .ro, f := s_regex_anyBut }
theorem ok_regex_anyBut : FnOk Try.prog F_regex_anyBut 59 := fn_of (F := F_regex_anyBut) (hn := regex_anyBut.h) (E := regex_anyBut.E) cxOk (tysT _ _ _) (fs_cons ok_regex_group (fs_cons ok_bytesets_Range (fs_cons ok_regex_one (fs_cons ok_bytesets_Less fs_nil)))) follows Try.func59 (by kernel_rfl) (fun a r h => ⟨fuel, (congrFun (regex_anyBut.o0 fuel) a).trans ((by kernel_rfl : s_regex_anyBut a = F_regex_anyBut.f a).trans h)⟩)
namespace bytesets_Of
def E : Env cx := { tys := tys, fs := fsOf [(72, F_bytesets_put)] }
abbrev R := Option (D43)
def h : Hint := { vs := [0, 2, 3, 5, 6, 7, 8], ret := ([2], [2, 3]), cuts := [(3, ([2, 3, 6, 7, 8], [2, 3]), ([2, 3], [2, 3])), (7, ([2, 3], [2, 3]), ([2, 3], [2, 3]))] }
def W : Pr cx (D43) := ⟨E, h, bodyC Try.f60, fin (S := cx) E Try.f60.results.toList t3 .ro [] []⟩
abbrev T2 := (List Int) → (List Int) → R
abbrev T1 := (List Int) → Int → Int → (List Int) → (List Int) → R
abbrev T0 := D43 → R
def u0 (k : Nat) : T0 := fun a => runOf (S := cx) E h k Try.f60 [.val t22] t3 .ro a
abbrev l2 (c : Bool) (k : Nat) : T2 := fun m2 m3 => lfR c W k [1, 1, 1] [] ⟨[(2, vA 2), (3, vA 3)], [], [(2, ⟨t3, .ro, m2⟩), (3, ⟨t3, .ro, m3⟩)]⟩
abbrev l1 (c : Bool) (k n1 : Nat) : T1 := fun x6 x7 x8 m2 m3 => lfL c W k [1, 1, 0, 1, 0] [] n1 ⟨[(2, vA 2), (3, vA 3), (6, vR t22 x6), (7, vI x7), (8, vI x8)], [], [(2, ⟨t3, .ro, m2⟩), (3, ⟨t3, .ro, m3⟩)]⟩
def t2 : T2 := fun m2 m3 => (some (m3, ()))
def p2 (k : Nat) : T2 := t2
theorem o2 (k : Nat) : l2 true k = p2 k := lfo (b := l2 false k) (fx2 fun _ _ => lcR) (by kernel_rfl) rfl
def t1 (f1 : T1) (f2 : T2) : T1 := fun x6 x7 x8 m2 m3 => (iteB (decide (x8 < x7)) (withinR x8 (List.length x6) fun q1 => (bindR (s_bytesets_put (m3, ((List.getD x6 q1 (0 : Int)), ()))) fun r2 => (f1 x6 x7 (w64 (x8 + (1 : Int))) m2 r2.2.1))) (f2 m2 m3))
def p1 (k : Nat) : Nat → T1 := iter fun f => t1 f (p2 k)
theorem o1 (k : Nat) : ∀ n, l1 true k n = p1 k n := oL (u := l1 false k) (by kernel_rfl) (fun n1 => (fx5 fun _ _ _ _ _ => lcL)) (fun n1 => by kernel_rfl) (fun n1 f h => (congr (congrArg t1 h) (o2 k)))
def t0 (f1 : T1) : T0 := fun a => (f1 a.1 ((List.length a.1 : Nat) : Int) (0 : Int) (List.replicate 4 (0 : Int)) (List.replicate 4 (0 : Int)))
def p0 (k : Nat) : T0 := t0 (p1 k k)
theorem o0 (k : Nat) : u0 k = p0 k := Eq.trans (by kernel_rfl) (congrArg t0 (o1 k k))
end bytesets_Of
def s_bytesets_Of (a : D43) : Option D43 := bytesets_Of.p0 fuel a
def F_bytesets_Of : FSpec cx.toNm := { ps := [.val t22], nres := 1, rt := t3, rm := .ro, f := s_bytesets_Of }
theorem ok_bytesets_Of : FnOk Try.prog F_bytesets_Of 60 := fn_of (F := F_bytesets_Of) (hn := bytesets_Of.h) (E := bytesets_Of.E) cxOk (tysT _ _ _) (fs_cons ok_bytesets_put fs_nil) follows Try.func60 (by kernel_rfl) (fun a r h => ⟨fuel, (congrFun (bytesets_Of.o0 fuel) a).trans ((by kernel_rfl : s_bytesets_Of a = F_bytesets_Of.f a).trans h)⟩)
namespace runes_isFollower
def E : Env cx := { tys := tys, fs := fsOf [] }
abbrev R := Option (D14)
def h : Hint := { vs := [0, 2], ret := ([2], []) }
def W : Pr cx (D14) := ⟨E, h, bodyC Try.f49, fin (S := cx) E Try.f49.results.toList .bool .ro [] []⟩
abbrev T0 := D19 → R
def u0 (k : Nat) : T0 := fun a => runOf (S := cx) E h k Try.f49 [.val (.int .u8)] .bool .ro a
def t0 : T0 := fun a => (some ((decide ((bitI .and .u8 a.1 (192 : Int)) = (128 : Int))), ()))
def p0 (k : Nat) : T0 := t0
theorem o0 (k : Nat) : u0 k = p0 k := Eq.trans (by kernel_rfl) rfl
end runes_isFollower
def s_runes_isFollower (a : D19) : Option D14 := runes_isFollower.p0 fuel a
def F_runes_isFollower : FSpec cx.toNm := { ps := [.val (.int .u8)], nres := 1, rt := .bool, rm := .ro, f := s_runes_isFollower }
theorem ok_runes_isFollower : FnOk Try.prog F_runes_isFollower 49 := fn_of (F := F_runes_isFollower) (hn := runes_isFollower.h) (E := runes_isFollower.E) cxOk (tysT _ _ _) fs_nil follows Try.func49 (by kernel_rfl) (fun a r h => ⟨fuel, (congrFun (runes_isFollower.o0 fuel) a).trans ((by kernel_rfl : s_runes_isFollower a = F_runes_isFollower.f a).trans h)⟩)
namespace runes_shapeOf
def E : Env cx := { tys := tys, fs := fsOf [] }
abbrev R := Option (D35)
def h : Hint := { vs := [0, 2], ret := ([2], [2]), cuts := [(4, ([0, 2, 7], [2]), ([2], [2])), (6, ([0, 2, 15], [2]), ([2], [2])), (8, ([2, 23], [2]), ([2], [2])), (9, ([2], [2]), ([2], [2]))] }
def W : Pr cx (D35) := ⟨E, h, bodyC Try.f48, fin (S := cx) E Try.f48.results.toList t18 .ro [] []⟩
abbrev T4 := D11 → R
abbrev T3 := Bool → D11 → R
abbrev T2 := Int → Bool → D11 → R
abbrev T1 := Int → Bool → D11 → R
abbrev T0 := D19 → R
def u0 (k : Nat) : T0 := fun a => runOf (S := cx) E h k Try.f48 [.val (.int .u8)] t18 .ro a
abbrev l4 (c : Bool) (k : Nat) : T4 := fun m2 => lfR c W k [1, 1] [] ⟨[(2, vA 2)], [], [(2, ⟨t18, .ro, m2⟩)]⟩
abbrev l3 (c : Bool) (k : Nat) : T3 := fun x23 m2 => lfR c W k [1, 0, 0, 1, 1, 1, 1, 1, 1, 1] [] ⟨[(2, vA 2), (23, vB x23)], [], [(2, ⟨t18, .ro, m2⟩)]⟩
abbrev l2 (c : Bool) (k : Nat) : T2 := fun x0 x15 m2 => lfR c W k [1, 0, 0, 1, 1, 1, 1, 1] [] ⟨[(0, vR (.int .u8) x0), (2, vA 2), (15, vB x15)], [], [(2, ⟨t18, .ro, m2⟩)]⟩
abbrev l1 (c : Bool) (k : Nat) : T1 := fun x0 x7 m2 => lfR c W k [1, 0, 0, 1, 1, 1] [] ⟨[(0, vR (.int .u8) x0), (2, vA 2), (7, vB x7)], [], [(2, ⟨t18, .ro, m2⟩)]⟩
def t4 : T4 := fun m2 => (some (((0 : Int), ((0 : Int), (0 : Int))), ()))
def p4 (k : Nat) : T4 := t4
theorem o4 (k : Nat) : l4 true k = p4 k := lfo (b := l4 false k) (fx1 fun _ => lcR) (by kernel_rfl) rfl
def t3 (f4 : T4) : T3 := fun x23 m2 => (iteB x23 (some (((4 : Int), ((240 : Int), (65536 : Int))), ())) (f4 m2))
def p3 (k : Nat) : T3 := t3 (p4 k)
theorem o3 (k : Nat) : l3 true k = p3 k := lfo (b := l3 false k) (fx2 fun _ _ => lcR) (by kernel_rfl) (congrArg t3 (o4 k))
def t2 (f3 : T3) : T2 := fun x0 x15 m2 => (iteB x15 (some (((3 : Int), ((224 : Int), (2048 : Int))), ())) (iteB (decide ((240 : Int) ≤ x0)) (f3 (decide (x0 < (248 : Int))) m2) (f3 false m2)))
def p2 (k : Nat) : T2 := t2 (p3 k)
theorem o2 (k : Nat) : l2 true k = p2 k := lfo (b := l2 false k) (fx3 fun _ _ _ => lcR) (by kernel_rfl) (congrArg t2 (o3 k))
def t1 (f2 : T2) : T1 := fun x0 x7 m2 => (iteB x7 (some (((2 : Int), ((192 : Int), (128 : Int))), ())) (iteB (decide ((224 : Int) ≤ x0)) (f2 x0 (decide (x0 < (240 : Int))) m2) (f2 x0 false m2)))
def p1 (k : Nat) : T1 := t1 (p2 k)
theorem o1 (k : Nat) : l1 true k = p1 k := lfo (b := l1 false k) (fx3 fun _ _ _ => lcR) (by kernel_rfl) (congrArg t1 (o2 k))
def t0 (f1 : T1) : T0 := fun a => (iteB (decide (a.1 < (128 : Int))) (some (((1 : Int), ((0 : Int), (0 : Int))), ())) (iteB (decide ((192 : Int) ≤ a.1)) (f1 a.1 (decide (a.1 < (224 : Int))) ((0 : Int), ((0 : Int), (0 : Int)))) (f1 a.1 false ((0 : Int), ((0 : Int), (0 : Int))))))
def p0 (k : Nat) : T0 := t0 (p1 k)
theorem o0 (k : Nat) : u0 k = p0 k := Eq.trans (by kernel_rfl) (congrArg t0 (o1 k))
end runes_shapeOf
def s_runes_shapeOf (a : D19) : Option D35 := runes_shapeOf.p0 fuel a
def F_runes_shapeOf : FSpec cx.toNm := { ps := [.val (.int .u8)], nres := 1, rt := t18, rm := .ro, f := s_runes_shapeOf }
theorem ok_runes_shapeOf : FnOk Try.prog F_runes_shapeOf 48 := fn_of (F := F_runes_shapeOf) (hn := runes_shapeOf.h) (E := runes_shapeOf.E) cxOk (tysT _ _ _) fs_nil follows Try.func48 (by kernel_rfl) (fun a r h => ⟨fuel, (congrFun (runes_shapeOf.o0 fuel) a).trans ((by kernel_rfl : s_runes_shapeOf a = F_runes_shapeOf.f a).trans h)⟩)
namespace runes_isSign
def E : Env cx := { tys := tys, fs := fsOf [] }
abbrev R := Option (D14)
def h : Hint := { vs := [0, 2], ret := ([2], []) }
def W : Pr cx (D14) := ⟨E, h, bodyC Try.f50, fin (S := cx) E Try.f50.results.toList .bool .ro [] []⟩
abbrev T0 := D19 → R
def u0 (k : Nat) : T0 := fun a => runOf (S := cx) E h k Try.f50 [.val (.int .i64)] .bool .ro a
def t0 : T0 := fun a => (iteB (decide ((0 : Int) ≤ a.1)) (iteB (decide (a.1 < (1114112 : Int))) (iteB (decide (a.1 < (55296 : Int))) (some (true, ())) (some ((decide ((57343 : Int) < a.1)), ()))) (some (false, ()))) (some (false, ())))
def p0 (k : Nat) : T0 := t0
theorem o0 (k : Nat) : u0 k = p0 k := Eq.trans (by kernel_rfl) rfl
end runes_isSign
def s_runes_isSign (a : D19) : Option D14 := runes_isSign.p0 fuel a
def F_runes_isSign : FSpec cx.toNm := { ps := [.val (.int .i64)], nres := 1, rt := .bool, rm := .ro, f := s_runes_isSign }
theorem ok_runes_isSign : FnOk Try.prog F_runes_isSign 50 := fn_of (F := F_runes_isSign) (hn := runes_isSign.h) (E := runes_isSign.E) cxOk (tysT _ _ _) fs_nil follows Try.func50 (by kernel_rfl) (fun a r h => ⟨fuel, (congrFun (runes_isSign.o0 fuel) a).trans ((by kernel_rfl : s_runes_isSign a = F_runes_isSign.f a).trans h)⟩)
namespace runes_First
def E : Env cx := { tys := tys, fs := fsOf [(48, F_runes_shapeOf), (49, F_runes_isFollower), (50, F_runes_isSign)] }
abbrev R := Option (D31)
def h : Hint := { vs := [0, 2, 3, 4, 5, 6], ret := ([2, 3], [4]), cuts := [(5, ([0, 4, 21], [4]), ([0, 4], [4])), (6, ([0, 4], [4]), ([0, 4], [4])), (8, ([0, 4, 5, 6], [4]), ([4, 5], [4])), (13, ([4, 5], [4]), ([4, 5], [4])), (14, ([4, 5, 55], [4]), ([4, 5], [4])), (15, ([4, 5], [4]), ([4, 5], [4]))] }
def W : Pr cx (D31) := ⟨E, h, bodyC Try.f43, fin (S := cx) E Try.f43.results.toList t16 .ro [] []⟩
abbrev T6 := Int → D11 → R
abbrev T5 := Int → Bool → D11 → R
abbrev T4 := Int → D11 → R
abbrev T3 := (List UInt8) → Int → Int → D11 → R
abbrev T2 := (List UInt8) → D11 → R
abbrev T1 := (List UInt8) → Bool → D11 → R
abbrev T0 := D15 → R
def u0 (k : Nat) : T0 := fun a => runOf (S := cx) E h k Try.f43 [.val .str] t16 .ro a
abbrev l6 (c : Bool) (k : Nat) : T6 := fun x5 m4 => lfR c W k [1, 1, 1, 1, 1, 1, 1] [] ⟨[(4, vA 4), (5, vI x5)], [], [(4, ⟨t18, .ro, m4⟩)]⟩
abbrev l5 (c : Bool) (k : Nat) : T5 := fun x5 x55 m4 => lfR c W k [1, 1, 1, 1, 1, 1, 0, 1] [] ⟨[(4, vA 4), (5, vI x5), (55, vB x55)], [], [(4, ⟨t18, .ro, m4⟩)]⟩
abbrev l4 (c : Bool) (k : Nat) : T4 := fun x5 m4 => lfR c W k [1, 1, 1, 1, 1, 1] [] ⟨[(4, vA 4), (5, vI x5)], [], [(4, ⟨t18, .ro, m4⟩)]⟩
abbrev l3 (c : Bool) (k n3 : Nat) : T3 := fun x0 x5 x6 m4 => lfL c W k [1, 1, 1, 1, 1, 0, 1, 0] [] n3 ⟨[(0, vS x0), (4, vA 4), (5, vI x5), (6, vI x6)], [], [(4, ⟨t18, .ro, m4⟩)]⟩
abbrev l2 (c : Bool) (k : Nat) : T2 := fun x0 m4 => lfR c W k [1, 1, 1, 1] [] ⟨[(0, vS x0), (4, vA 4)], [], [(4, ⟨t18, .ro, m4⟩)]⟩
abbrev l1 (c : Bool) (k : Nat) : T1 := fun x0 x21 m4 => lfR c W k [1, 1, 1, 0, 1] [] ⟨[(0, vS x0), (4, vA 4), (21, vB x21)], [], [(4, ⟨t18, .ro, m4⟩)]⟩
def t6 : T6 := fun x5 m4 => (some ((x5, m4.1), ()))
def p6 (k : Nat) : T6 := t6
theorem o6 (k : Nat) : l6 true k = p6 k := lfo (b := l6 false k) (fx2 fun _ _ => lcR) (by kernel_rfl) rfl
def t5 (f6 : T6) : T5 := fun x5 x55 m4 => (iteB x55 (some (((-1 : Int), (0 : Int)), ())) (f6 x5 m4))
def p5 (k : Nat) : T5 := t5 (p6 k)
theorem o5 (k : Nat) : l5 true k = p5 k := lfo (b := l5 false k) (fx3 fun _ _ _ => lcR) (by kernel_rfl) (congrArg t5 (o6 k))
def t4 (f5 : T5) : T4 := fun x5 m4 => (iteB (decide (x5 < m4.2.2)) (f5 x5 true m4) (bindR (s_runes_isSign (x5, ())) fun r7 => (f5 x5 (notB r7.1) m4)))
def p4 (k : Nat) : T4 := t4 (p5 k)
theorem o4 (k : Nat) : l4 true k = p4 k := lfo (b := l4 false k) (fx2 fun _ _ => lcR) (by kernel_rfl) (congrArg t4 (o5 k))
def t3 (f3 : T3) (f4 : T4) : T3 := fun x0 x5 x6 m4 => (iteB (decide (x6 < m4.1)) (withinR x6 (List.length x0) fun q4 => (bindR (s_runes_isFollower ((byteAt x0 q4), ())) fun r5 => (iteB (notB r5.1) (some (((-1 : Int), (0 : Int)), ())) (withinR x6 (List.length x0) fun q6 => (f3 x0 (bitI .or .i64 (shlI .i64 x5 (6 : Int)) (w64 ((bitI .and .u8 (byteAt x0 q6) (63 : Int))))) (w64 (x6 + (1 : Int))) m4))))) (f4 x5 m4))
def p3 (k : Nat) : Nat → T3 := iter fun f => t3 f (p4 k)
theorem o3 (k : Nat) : ∀ n, l3 true k n = p3 k n := oL (u := l3 false k) (by kernel_rfl) (fun n3 => (fx4 fun _ _ _ _ => lcL)) (fun n3 => by kernel_rfl) (fun n3 f h => (congr (congrArg t3 h) (o4 k)))
def t2 (f3 : T3) : T2 := fun x0 m4 => (withinR (0 : Int) (List.length x0) fun q3 => (f3 x0 (w64 ((w64 ((byteAt x0 q3))) - m4.2.1)) (1 : Int) m4))
def p2 (k : Nat) : T2 := t2 (p3 k k)
theorem o2 (k : Nat) : l2 true k = p2 k := lfo (b := l2 false k) (fx2 fun _ _ => lcR) (by kernel_rfl) (congrArg t2 (o3 k k))
def t1 (f2 : T2) : T1 := fun x0 x21 m4 => (iteB x21 (some (((-1 : Int), (0 : Int)), ())) (f2 x0 m4))
def p1 (k : Nat) : T1 := t1 (p2 k)
theorem o1 (k : Nat) : l1 true k = p1 k := lfo (b := l1 false k) (fx3 fun _ _ _ => lcR) (by kernel_rfl) (congrArg t1 (o2 k))
def t0 (f1 : T1) : T0 := fun a => (iteB (decide (a.1 = ([] : List UInt8))) (some (((-1 : Int), (0 : Int)), ())) (withinR (0 : Int) (List.length a.1) fun q1 => (bindR (s_runes_shapeOf ((byteAt a.1 q1), ())) fun r2 => (iteB (decide (r2.1.1 = (0 : Int))) (f1 a.1 true r2.1) (f1 a.1 (decide (((List.length a.1 : Nat) : Int) < r2.1.1)) r2.1)))))
def p0 (k : Nat) : T0 := t0 (p1 k)
theorem o0 (k : Nat) : u0 k = p0 k := Eq.trans (by kernel_rfl) (congrArg t0 (o1 k))
end runes_First
def s_runes_First (a : D15) : Option D31 := runes_First.p0 fuel a
def F_runes_First : FSpec cx.toNm := { ps := [.val .str], nres := 2, rt := t16, rm := .ro, f := s_runes_First }
theorem ok_runes_First : FnOk Try.prog F_runes_First 43 := fn_of (F := F_runes_First) (hn := runes_First.h) (E := runes_First.E) cxOk (tysT _ _ _) (fs_cons ok_runes_shapeOf (fs_cons ok_runes_isFollower (fs_cons ok_runes_isSign fs_nil))) follows Try.func43 (by kernel_rfl) (fun a r h => ⟨fuel, (congrFun (runes_First.o0 fuel) a).trans ((by kernel_rfl : s_runes_First a = F_runes_First.f a).trans h)⟩)
namespace regex_reading_take
def E : Env cx := { tys := tys, fs := fsOf [(17, F_need), (43, F_runes_First)], pt := 42 }
abbrev R := Option (Option (D30))
def h : Hint := { vs := [0, 2, 3, 4], ret := ([0, 2], [1000000]) }
def W : Pr cx (Option (D30)) := ⟨E, h, bodyC Try.f46, finP (S := cx) E Try.f46.results.toList (.int .i64) .ro [1000000] [(t1, .ro)]⟩
abbrev T0 := D12 → R
def u0 (k : Nat) : T0 := fun a => runOfP (S := cx) E h k Try.f46 [.io t1 .ro] (.int .i64) .ro a
def t0 : T0 := fun a => (bindR (s_runes_First (a.1.1, ())) fun r1 => (bindQ (s_need ((decide ((0 : Int) < r1.1.2)), ())) (some none) fun r2 => (mustR (decide (0 ≤ r1.1.2)) (mustR (decide (r1.1.2 ≤ (((List.length a.1.1) : Nat) : Int))) (some (some (r1.1.1, (((List.drop (Int.toNat r1.1.2) (List.take (List.length a.1.1) a.1.1)), a.1.2), ()))))))))
def p0 (k : Nat) : T0 := t0
theorem o0 (k : Nat) : u0 k = p0 k := Eq.trans (by kernel_rfl) rfl
end regex_reading_take
def s_regex_reading_take (a : D12) : Option (Option (D30)) := regex_reading_take.p0 fuel a
def F_regex_reading_take : FSpec cx.toNm := { ps := [.io t1 .ro], nres := 1, rt := (.int .i64), rm := .ro, f := fun _ => none, p := some (42, s_regex_reading_take) }
theorem ok_regex_reading_take : FnOk Try.prog F_regex_reading_take 46 := fn_ofP (F := F_regex_reading_take) (hn := regex_reading_take.h) (E := regex_reading_take.E) cxOk (tysT _ _ _) (fs_cons ok_need (fs_cons ok_runes_First fs_nil)) follows Try.func46 (by kernel_rfl) rfl (fun a r h => ⟨fuel, (congrFun (regex_reading_take.o0 fuel) a).trans ((by kernel_rfl : s_regex_reading_take a = s_regex_reading_take a).trans h)⟩)
namespace regex_reading_next
def E : Env cx := { tys := tys, fs := fsOf [(43, F_runes_First)] }
abbrev R := Option (D30)
def h : Hint := { vs := [0, 2, 3], ret := ([0, 2], [1000000]) }
def W : Pr cx (D30) := ⟨E, h, bodyC Try.f44, fin (S := cx) E Try.f44.results.toList (.int .i64) .ro [1000000] [(t1, .ro)]⟩
abbrev T0 := D12 → R
def u0 (k : Nat) : T0 := fun a => runOf (S := cx) E h k Try.f44 [.io t1 .ro] (.int .i64) .ro a
def t0 : T0 := fun a => (bindR (s_runes_First (a.1.1, ())) fun r1 => (some (r1.1.1, (a.1, ()))))
def p0 (k : Nat) : T0 := t0
theorem o0 (k : Nat) : u0 k = p0 k := Eq.trans (by kernel_rfl) rfl
end regex_reading_next
def s_regex_reading_next (a : D12) : Option D30 := regex_reading_next.p0 fuel a
def F_regex_reading_next : FSpec cx.toNm := { ps := [.io t1 .ro], nres := 1, rt := (.int .i64), rm := .ro, f := s_regex_reading_next }
theorem ok_regex_reading_next : FnOk Try.prog F_regex_reading_next 44 := fn_of (F := F_regex_reading_next) (hn := regex_reading_next.h) (E := regex_reading_next.E) cxOk (tysT _ _ _) (fs_cons ok_runes_First fs_nil) follows Try.func44 (by kernel_rfl) (fun a r h => ⟨fuel, (congrFun (regex_reading_next.o0 fuel) a).trans ((by kernel_rfl : s_regex_reading_next a = F_regex_reading_next.f a).trans h)⟩)
namespace regex_reading_is
def E : Env cx := { tys := tys, fs := fsOf [(44, F_regex_reading_next), (46, F_regex_reading_take)], pt := 42 }
abbrev R := Option (Option (D18))
def h : Hint := { vs := [0, 1, 4], ret := ([0, 4], [1000000]) }
def W : Pr cx (Option (D18)) := ⟨E, h, bodyC Try.f26, finP (S := cx) E Try.f26.results.toList .bool .ro [1000000] [(t1, .ro)]⟩
abbrev T0 := D20 → R
def u0 (k : Nat) : T0 := fun a => runOfP (S := cx) E h k Try.f26 [.io t1 .ro, .val (.int .i64)] .bool .ro a
def t0 : T0 := fun a => (bindR (s_regex_reading_next (a.1, ())) fun r1 => (iteB (!decide (r1.1 = a.2.1)) (some (some (false, (r1.2.1, ())))) (bindQ (s_regex_reading_take (r1.2.1, ())) (some none) fun r2 => (some (some (true, (r2.2.1, ())))))))
def p0 (k : Nat) : T0 := t0
theorem o0 (k : Nat) : u0 k = p0 k := Eq.trans (by kernel_rfl) rfl
end regex_reading_is
def s_regex_reading_is (a : D20) : Option (Option (D18)) := regex_reading_is.p0 fuel a
def F_regex_reading_is : FSpec cx.toNm := { ps := [.io t1 .ro, .val (.int .i64)], nres := 1, rt := .bool, rm := .ro, f := fun _ => none, p := some (42, s_regex_reading_is) }
theorem ok_regex_reading_is : FnOk Try.prog F_regex_reading_is 26 := fn_ofP (F := F_regex_reading_is) (hn := regex_reading_is.h) (E := regex_reading_is.E) cxOk (tysT _ _ _) (fs_cons ok_regex_reading_next (fs_cons ok_regex_reading_take fs_nil)) follows Try.func26 (by kernel_rfl) rfl (fun a r h => ⟨fuel, (congrFun (regex_reading_is.o0 fuel) a).trans ((by kernel_rfl : s_regex_reading_is a = s_regex_reading_is a).trans h)⟩)
namespace internal_stringslite_IndexByte
def E : Env cx := { tys := tys, fs := fsOf [(79, F_IndexByteString)] }
abbrev R := Option (D19)
def h : Hint := { vs := [0, 1, 4], ret := ([4], []) }
def W : Pr cx (D19) := ⟨E, h, bodyC Try.f74, fin (S := cx) E Try.f74.results.toList (.int .i64) .ro [] []⟩
abbrev T0 := D44 → R
def u0 (k : Nat) : T0 := fun a => runOf (S := cx) E h k Try.f74 [.val .str, .val (.int .u8)] (.int .i64) .ro a
def t0 : T0 := fun a => (bindR (s_IndexByteString (a.1, (a.2.1, ()))) fun r1 => (some (r1.1, ())))
def p0 (k : Nat) : T0 := t0
theorem o0 (k : Nat) : u0 k = p0 k := Eq.trans (by kernel_rfl) rfl
end internal_stringslite_IndexByte
def s_internal_stringslite_IndexByte (a : D44) : Option D19 := internal_stringslite_IndexByte.p0 fuel a
def F_internal_stringslite_IndexByte : FSpec cx.toNm := { ps := [.val .str, .val (.int .u8)], nres := 1, rt := (.int .i64), rm := .ro, f := s_internal_stringslite_IndexByte }
theorem ok_internal_stringslite_IndexByte : FnOk Try.prog F_internal_stringslite_IndexByte 74 := fn_of (F := F_internal_stringslite_IndexByte) (hn := internal_stringslite_IndexByte.h) (E := internal_stringslite_IndexByte.E) cxOk (tysT _ _ _) (fs_cons ok_IndexByteString fs_nil) follows Try.func74 (by kernel_rfl) (fun a r h => ⟨fuel, (congrFun (internal_stringslite_IndexByte.o0 fuel) a).trans ((by kernel_rfl : s_internal_stringslite_IndexByte a = F_internal_stringslite_IndexByte.f a).trans h)⟩)
namespace strings_IndexByte
def E : Env cx := { tys := tys, fs := fsOf [(74, F_internal_stringslite_IndexByte)] }
abbrev R := Option (D19)
def h : Hint := { vs := [0, 1, 4], ret := ([4], []) }
def W : Pr cx (D19) := ⟨E, h, bodyC Try.f63, fin (S := cx) E Try.f63.results.toList (.int .i64) .ro [] []⟩
abbrev T0 := D44 → R
def u0 (k : Nat) : T0 := fun a => runOf (S := cx) E h k Try.f63 [.val .str, .val (.int .u8)] (.int .i64) .ro a
def t0 : T0 := fun a => (bindR (s_internal_stringslite_IndexByte (a.1, (a.2.1, ()))) fun r1 => (some (r1.1, ())))
def p0 (k : Nat) : T0 := t0
theorem o0 (k : Nat) : u0 k = p0 k := Eq.trans (by kernel_rfl) rfl
end strings_IndexByte
def s_strings_IndexByte (a : D44) : Option D19 := strings_IndexByte.p0 fuel a
def F_strings_IndexByte : FSpec cx.toNm := { ps := [.val .str, .val (.int .u8)], nres := 1, rt := (.int .i64), rm := .ro, f := s_strings_IndexByte }
theorem ok_strings_IndexByte : FnOk Try.prog F_strings_IndexByte 63 := fn_of (F := F_strings_IndexByte) (hn := strings_IndexByte.h) (E := strings_IndexByte.E) cxOk (tysT _ _ _) (fs_cons ok_internal_stringslite_IndexByte fs_nil) follows Try.func63 (by kernel_rfl) (fun a r h => ⟨fuel, (congrFun (strings_IndexByte.o0 fuel) a).trans ((by kernel_rfl : s_strings_IndexByte a = F_strings_IndexByte.f a).trans h)⟩)
namespace regex_reading_escaped
def E : Env cx := { tys := tys, fs := fsOf [(17, F_need), (46, F_regex_reading_take), (63, F_strings_IndexByte)], pt := 42 }
abbrev R := Option (Option (D30))
def h : Hint := { vs := [0, 2, 3, 6], ret := ([0, 2], [1000000]), cuts := [(10, ([0, 3], [1000000]), ([0, 3], [1000000]))] }
def W : Pr cx (Option (D30)) := ⟨E, h, bodyC Try.f62, finP (S := cx) E Try.f62.results.toList (.int .i64) .ro [1000000] [(t1, .ro)]⟩
abbrev T1 := Int → D4 → R
abbrev T0 := D12 → R
def u0 (k : Nat) : T0 := fun a => runOfP (S := cx) E h k Try.f62 [.io t1 .ro] (.int .i64) .ro a
abbrev l1 (c : Bool) (k : Nat) : T1 := fun x3 m1000000 => lfR c W k [1, 1, 1, 1] [] ⟨[(0, vA 1000000), (3, vI x3)], [], [(1000000, ⟨t1, .ro, m1000000⟩)]⟩
def t1 : T1 := fun x3 m1000000 => (some (some (x3, (m1000000, ()))))
def p1 (k : Nat) : T1 := t1
theorem o1 (k : Nat) : l1 true k = p1 k := lfo (b := l1 false k) (fx2 fun _ _ => lcR) (by kernel_rfl) rfl
def t0 (f1 : T1) : T0 := fun a => (bindQ (s_regex_reading_take (a.1, ())) (some none) fun r1 => (iteB (decide (r1.1 = (110 : Int))) (some (some ((10 : Int), (r1.2.1, ())))) (iteB (decide (r1.1 = (116 : Int))) (some (some ((9 : Int), (r1.2.1, ())))) (iteB (decide (r1.1 = (114 : Int))) (some (some ((13 : Int), (r1.2.1, ())))) (iteB (decide (r1.1 < (128 : Int))) (bindR (s_strings_IndexByte (([124, 42, 43, 63, 40, 41, 91, 93, 46, 92, 45, 94] : List UInt8), ((w8 (r1.1)), ()))) fun r2 => (bindQ (s_need ((decide ((0 : Int) ≤ r2.1)), ())) (some none) fun r3 => (f1 r1.1 r1.2.1))) (bindQ (s_need (false, ())) (some none) fun r4 => (f1 r1.1 r1.2.1)))))))
def p0 (k : Nat) : T0 := t0 (p1 k)
theorem o0 (k : Nat) : u0 k = p0 k := Eq.trans (by kernel_rfl) (congrArg t0 (o1 k))
end regex_reading_escaped
def s_regex_reading_escaped (a : D12) : Option (Option (D30)) := regex_reading_escaped.p0 fuel a
def F_regex_reading_escaped : FSpec cx.toNm := { ps := [.io t1 .ro], nres := 1, rt := (.int .i64), rm := .ro, f := fun _ => none, p := some (42, s_regex_reading_escaped) }
theorem ok_regex_reading_escaped : FnOk Try.prog F_regex_reading_escaped 62 := fn_ofP (F := F_regex_reading_escaped) (hn := regex_reading_escaped.h) (E := regex_reading_escaped.E) cxOk (tysT _ _ _) (fs_cons ok_need (fs_cons ok_regex_reading_take (fs_cons ok_strings_IndexByte fs_nil))) follows Try.func62 (by kernel_rfl) rfl (fun a r h => ⟨fuel, (congrFun (regex_reading_escaped.o0 fuel) a).trans ((by kernel_rfl : s_regex_reading_escaped a = s_regex_reading_escaped a).trans h)⟩)
namespace regex_reading_bound
def E : Env cx := { tys := tys, fs := fsOf [(17, F_need), (46, F_regex_reading_take), (62, F_regex_reading_escaped)], pt := 42 }
abbrev R := Option (Option (D30))
def h : Hint := { vs := [0, 2, 3], ret := ([0, 2], [1000000]), cuts := [(5, ([0, 3], [1000000]), ([0, 3], [1000000]))] }
def W : Pr cx (Option (D30)) := ⟨E, h, bodyC Try.f67, finP (S := cx) E Try.f67.results.toList (.int .u8) .ro [1000000] [(t1, .ro)]⟩
abbrev T1 := Int → D4 → R
abbrev T0 := D12 → R
def u0 (k : Nat) : T0 := fun a => runOfP (S := cx) E h k Try.f67 [.io t1 .ro] (.int .u8) .ro a
abbrev l1 (c : Bool) (k : Nat) : T1 := fun x3 m1000000 => lfR c W k [1, 1, 1, 1] [] ⟨[(0, vA 1000000), (3, vI x3)], [], [(1000000, ⟨t1, .ro, m1000000⟩)]⟩
def t1 : T1 := fun x3 m1000000 => (some (some ((w8 (x3)), (m1000000, ()))))
def p1 (k : Nat) : T1 := t1
theorem o1 (k : Nat) : l1 true k = p1 k := lfo (b := l1 false k) (fx2 fun _ _ => lcR) (by kernel_rfl) rfl
def t0 (f1 : T1) : T0 := fun a => (bindQ (s_regex_reading_take (a.1, ())) (some none) fun r1 => (iteB (decide (r1.1 = (92 : Int))) (bindQ (s_regex_reading_escaped (r1.2.1, ())) (some none) fun r2 => (some (some ((w8 (r2.1)), (r2.2.1, ()))))) (iteB (decide (r1.1 < (128 : Int))) (iteB (!decide (r1.1 = (93 : Int))) (iteB (!decide (r1.1 = (45 : Int))) (bindQ (s_need ((!decide (r1.1 = (94 : Int))), ())) (some none) fun r3 => (f1 r1.1 r1.2.1)) (bindQ (s_need (false, ())) (some none) fun r4 => (f1 r1.1 r1.2.1))) (bindQ (s_need (false, ())) (some none) fun r5 => (f1 r1.1 r1.2.1))) (bindQ (s_need (false, ())) (some none) fun r6 => (f1 r1.1 r1.2.1)))))
def p0 (k : Nat) : T0 := t0 (p1 k)
theorem o0 (k : Nat) : u0 k = p0 k := Eq.trans (by kernel_rfl) (congrArg t0 (o1 k))
end regex_reading_bound
def s_regex_reading_bound (a : D12) : Option (Option (D30)) := regex_reading_bound.p0 fuel a
def F_regex_reading_bound : FSpec cx.toNm := { ps := [.io t1 .ro], nres := 1, rt := (.int .u8), rm := .ro, f := fun _ => none, p := some (42, s_regex_reading_bound) }
theorem ok_regex_reading_bound : FnOk Try.prog F_regex_reading_bound 67 := fn_ofP (F := F_regex_reading_bound) (hn := regex_reading_bound.h) (E := regex_reading_bound.E) cxOk (tysT _ _ _) (fs_cons ok_need (fs_cons ok_regex_reading_take (fs_cons ok_regex_reading_escaped fs_nil))) follows Try.func67 (by kernel_rfl) rfl (fun a r h => ⟨fuel, (congrFun (regex_reading_bound.o0 fuel) a).trans ((by kernel_rfl : s_regex_reading_bound a = s_regex_reading_bound a).trans h)⟩)
namespace regex_reading_class
def E : Env cx := { tys := tys, fs := fsOf [(17, F_need), (26, F_regex_reading_is), (44, F_regex_reading_next), (46, F_regex_reading_take), (59, F_regex_anyBut), (60, F_bytesets_Of), (67, F_regex_reading_bound), (68, F_bytesets_Or), (69, F_bytesets_Range), (70, F_regex_one)], pt := 42 }
abbrev R := Option (Option (D13))
def h : Hint := { vs := [0, 2, 3, 4, 5, 6, 7], ret := ([0, 2], [2, 4, 1000000]), cuts := [(4, ([0, 2, 3, 4, 5], [2, 4, 1000000]), ([0, 2, 3, 4], [2, 4, 1000000])), (5, ([0, 2, 3, 4], [2, 4, 1000000]), ([0, 2, 3, 4, 5], [2, 4, 1000000])), (6, ([0, 2, 3, 4], [2, 4, 1000000]), ([0, 2, 3, 4, 5], [2, 4, 1000000])), (10, ([0, 2, 3, 4, 6, 7], [2, 4, 1000000]), ([0, 2, 3, 4], [2, 4, 1000000])), (12, ([0, 2, 3, 4], [2, 4, 1000000]), ([0, 2, 3, 4], [2, 4, 1000000])), (1000000, ([0, 2, 3, 4, 16], [2, 4, 1000000]), ([0, 2, 3, 4], [2, 4, 1000000]))] }
def W : Pr cx (Option (D13)) := ⟨E, h, bodyC Try.f58, finP (S := cx) E Try.f58.results.toList t7 .ro [1000000] [(t1, .ro)]⟩
abbrev T6 := Bool → D2 → (List Int) → D4 → R
abbrev T5 := Bool → Int → Int → D2 → (List Int) → D4 → R
abbrev T3 := Bool → D2 → (List Int) → D4 → R
abbrev T4 := Bool → D2 → (List Int) → D4 → R
abbrev T2 := Bool → Bool → D2 → (List Int) → D4 → R
abbrev T1 := Bool → Bool → D2 → (List Int) → D4 → R
abbrev T0 := D12 → R
def u0 (k : Nat) : T0 := fun a => runOfP (S := cx) E h k Try.f58 [.io t1 .ro] t7 .ro a
abbrev l6 (c : Bool) (k n1 : Nat) : T6 := fun x3 m2 m4 m1000000 => lfR c W k [1, 1, 1, 0, 1, 0, 0, 1, 1] [n1] ⟨[(0, vA 1000000), (2, vA 2), (3, vB x3), (4, vA 4)], [], [(2, ⟨t7, .ro, m2⟩), (4, ⟨t3, .ro, m4⟩), (1000000, ⟨t1, .ro, m1000000⟩)]⟩
abbrev l5 (c : Bool) (k n1 : Nat) : T5 := fun x3 x6 x7 m2 m4 m1000000 => lfR c W k [1, 1, 1, 0, 1, 0, 0, 1, 0, 0, 1, 1, 1] [n1] ⟨[(0, vA 1000000), (2, vA 2), (3, vB x3), (4, vA 4), (6, vR (.int .u8) x6), (7, vR (.int .u8) x7)], [], [(2, ⟨t7, .ro, m2⟩), (4, ⟨t3, .ro, m4⟩), (1000000, ⟨t1, .ro, m1000000⟩)]⟩
abbrev l3 (c : Bool) (k n1 : Nat) : T3 := fun x3 m2 m4 m1000000 => lfR c W k [1, 1, 1, 0, 1, 0, 0, 1] [n1] ⟨[(0, vA 1000000), (2, vA 2), (3, vB x3), (4, vA 4)], [], [(2, ⟨t7, .ro, m2⟩), (4, ⟨t3, .ro, m4⟩), (1000000, ⟨t1, .ro, m1000000⟩)]⟩
abbrev l4 (c : Bool) (k : Nat) : T4 := fun x3 m2 m4 m1000000 => lfR c W k [1, 1, 1, 1] [] ⟨[(0, vA 1000000), (2, vA 2), (3, vB x3), (4, vA 4)], [], [(2, ⟨t7, .ro, m2⟩), (4, ⟨t3, .ro, m4⟩), (1000000, ⟨t1, .ro, m1000000⟩)]⟩
abbrev l2 (c : Bool) (k n1 : Nat) : T2 := fun x3 x16 m2 m4 m1000000 => lfR c W k [1, 1, 1, 0, 1, 0, 0, 0, 1] [n1] ⟨[(0, vA 1000000), (2, vA 2), (3, vB x3), (4, vA 4), (16, vB x16)], [], [(2, ⟨t7, .ro, m2⟩), (4, ⟨t3, .ro, m4⟩), (1000000, ⟨t1, .ro, m1000000⟩)]⟩
abbrev l1 (c : Bool) (k n1 : Nat) : T1 := fun x3 x5 m2 m4 m1000000 => lfL c W k [1, 1, 1, 0, 1, 0] [] n1 ⟨[(0, vA 1000000), (2, vA 2), (3, vB x3), (4, vA 4), (5, vB x5)], [], [(2, ⟨t7, .ro, m2⟩), (4, ⟨t3, .ro, m4⟩), (1000000, ⟨t1, .ro, m1000000⟩)]⟩
def t6 (f1 : T1) : T6 := fun x3 m2 m4 m1000000 => (f1 x3 true m2 m4 m1000000)
def p6 (k : Nat) (a1 : T1) : T6 := t6 a1
theorem o6 (k n1 : Nat) (a1 : T1) (h1 : l1 true k n1 = a1) : l6 true k n1 = p6 k a1 := lfo (b := l6 false k n1) (fx4 fun _ _ _ _ => lcR) (by kernel_rfl) (congrArg t6 h1)
def t5 (f6 : T6) : T5 := fun x3 x6 x7 m2 m4 m1000000 => (bindQ (s_need ((decide (x6 ≤ x7)), ())) (some none) fun r6 => (bindR (s_bytesets_Range (x6, (x7, ()))) fun r7 => (bindR (s_bytesets_Or (([m4, r7.1] : List (List Int)), ())) fun r8 => (f6 x3 m2 r8.1 m1000000))))
def p5 (k : Nat) (a1 : T1) : T5 := t5 (p6 k a1)
theorem o5 (k n1 : Nat) (a1 : T1) (h1 : l1 true k n1 = a1) : l5 true k n1 = p5 k a1 := lfo (b := l5 false k n1) (fx6 fun _ _ _ _ _ _ => lcR) (by kernel_rfl) (congrArg t5 (o6 k n1 a1 h1))
def t3 (f5 : T5) : T3 := fun x3 m2 m4 m1000000 => (bindQ (s_regex_reading_bound (m1000000, ())) (some none) fun r3 => (bindQ (s_regex_reading_is (r3.2.1, ((45 : Int), ()))) (some none) fun r4 => (iteB r4.1 (bindQ (s_regex_reading_bound (r4.2.1, ())) (some none) fun r5 => (f5 x3 r3.1 r5.1 m2 m4 r5.2.1)) (f5 x3 r3.1 r3.1 m2 m4 r4.2.1))))
def p3 (k : Nat) (a1 : T1) : T3 := t3 (p5 k a1)
theorem o3 (k n1 : Nat) (a1 : T1) (h1 : l1 true k n1 = a1) : l3 true k n1 = p3 k a1 := lfo (b := l3 false k n1) (fx4 fun _ _ _ _ => lcR) (by kernel_rfl) (congrArg t3 (o5 k n1 a1 h1))
def t4 : T4 := fun x3 m2 m4 m1000000 => (bindQ (s_regex_reading_take (m1000000, ())) (some none) fun r9 => (iteB x3 (bindR (s_bytesets_Of (([(10 : Int)] : List (Int)), ())) fun r10 => (bindR (s_bytesets_Or (([m4, r10.1] : List (List Int)), ())) fun r11 => (bindR (s_regex_anyBut (r11.1, ())) fun r12 => (some (some (r12.1, (r9.2.1, ()))))))) (bindR (s_regex_one (m4, ())) fun r13 => (some (some (r13.1, (r9.2.1, ())))))))
def p4 (k : Nat) : T4 := t4
theorem o4 (k : Nat) : l4 true k = p4 k := lfo (b := l4 false k) (fx4 fun _ _ _ _ => lcR) (by kernel_rfl) rfl
def t2 (f3 : T3) (f4 : T4) : T2 := fun x3 x16 m2 m4 m1000000 => (iteB x16 (f3 x3 m2 m4 m1000000) (f4 x3 m2 m4 m1000000))
def p2 (k : Nat) (a1 : T1) : T2 := t2 (p3 k a1) (p4 k)
theorem o2 (k n1 : Nat) (a1 : T1) (h1 : l1 true k n1 = a1) : l2 true k n1 = p2 k a1 := lfo (b := l2 false k n1) (fx5 fun _ _ _ _ _ => lcR) (by kernel_rfl) (by have h := (congr (congrArg t2 (o3 k n1 a1 h1)) (o4 k)); exact h)
def t1 (f2 : T2) : T1 := fun x3 x5 m2 m4 m1000000 => (iteB (notB x5) (f2 x3 true m2 m4 m1000000) (bindR (s_regex_reading_next (m1000000, ())) fun r2 => (f2 x3 (!decide (r2.1 = (93 : Int))) m2 m4 r2.2.1)))
def p1 (k : Nat) : Nat → T1 := iter fun f => t1 (p2 k f)
theorem o1 (k : Nat) : ∀ n, l1 true k n = p1 k n := oL (u := l1 false k) (by kernel_rfl) (fun n1 => (fx5 fun _ _ _ _ _ => lcL)) (fun n1 => by kernel_rfl) (fun n1 f h => (congrArg t1 (o2 k n1 f h)))
def t0 (f1 : T1) : T0 := fun a => (bindQ (s_regex_reading_is (a.1, ((94 : Int), ()))) (some none) fun r1 => (f1 r1.1 false ((0 : Int), ((List.replicate 4 (0 : Int)), ([] : List (N0)))) (List.replicate 4 (0 : Int)) r1.2.1))
def p0 (k : Nat) : T0 := t0 (p1 k k)
theorem o0 (k : Nat) : u0 k = p0 k := Eq.trans (by kernel_rfl) (congrArg t0 (o1 k k))
end regex_reading_class
def s_regex_reading_class (a : D12) : Option (Option (D13)) := regex_reading_class.p0 fuel a
def F_regex_reading_class : FSpec cx.toNm := { ps := [.io t1 .ro], nres := 1, rt := t7, rm := .ro, f := fun _ => none, p := some (42, s_regex_reading_class) }
theorem ok_regex_reading_class : FnOk Try.prog F_regex_reading_class 58 := fn_ofP (F := F_regex_reading_class) (hn := regex_reading_class.h) (E := regex_reading_class.E) cxOk (tysT _ _ _) (fs_cons ok_need (fs_cons ok_regex_reading_is (fs_cons ok_regex_reading_next (fs_cons ok_regex_reading_take (fs_cons ok_regex_anyBut (fs_cons ok_bytesets_Of (fs_cons ok_regex_reading_bound (fs_cons ok_bytesets_Or (fs_cons ok_bytesets_Range (fs_cons ok_regex_one fs_nil)))))))))) follows Try.func58 (by kernel_rfl) rfl (fun a r h => ⟨fuel, (congrFun (regex_reading_class.o0 fuel) a).trans ((by kernel_rfl : s_regex_reading_class a = s_regex_reading_class a).trans h)⟩)
namespace runes_Bytes
def E : Env cx := { tys := tys, fs := fsOf [(50, F_runes_isSign)] }
abbrev R := Option (D15)
def h : Hint := { vs := [0, 2], ret := ([2], []) }
def W : Pr cx (D15) := ⟨E, h, bodyC Try.f73, fin (S := cx) E Try.f73.results.toList .str .ro [] []⟩
abbrev T0 := D19 → R
def u0 (k : Nat) : T0 := fun a => runOf (S := cx) E h k Try.f73 [.val (.int .i64)] .str .ro a
def t0 : T0 := fun a => (bindR (s_runes_isSign (a.1, ())) fun r1 => (iteB (notB r1.1) (some (([] : List UInt8), ())) (iteB (decide (a.1 < (128 : Int))) (some ((bytesOf ([(w8 (a.1))] : List (Int))), ())) (iteB (decide (a.1 < (2048 : Int))) (some ((bytesOf ([(w8 ((bitI .or .i64 (192 : Int) (shrI .i64 a.1 (6 : Int))))), (w8 ((bitI .or .i64 (128 : Int) (bitI .and .i64 a.1 (63 : Int)))))] : List (Int))), ())) (iteB (decide (a.1 < (65536 : Int))) (some ((bytesOf ([(w8 ((bitI .or .i64 (224 : Int) (shrI .i64 a.1 (12 : Int))))), (w8 ((bitI .or .i64 (128 : Int) (bitI .and .i64 (shrI .i64 a.1 (6 : Int)) (63 : Int))))), (w8 ((bitI .or .i64 (128 : Int) (bitI .and .i64 a.1 (63 : Int)))))] : List (Int))), ())) (some ((bytesOf ([(w8 ((bitI .or .i64 (240 : Int) (shrI .i64 a.1 (18 : Int))))), (w8 ((bitI .or .i64 (128 : Int) (bitI .and .i64 (shrI .i64 a.1 (12 : Int)) (63 : Int))))), (w8 ((bitI .or .i64 (128 : Int) (bitI .and .i64 (shrI .i64 a.1 (6 : Int)) (63 : Int))))), (w8 ((bitI .or .i64 (128 : Int) (bitI .and .i64 a.1 (63 : Int)))))] : List (Int))), ())))))))
def p0 (k : Nat) : T0 := t0
theorem o0 (k : Nat) : u0 k = p0 k := Eq.trans (by kernel_rfl) rfl
end runes_Bytes
def s_runes_Bytes (a : D19) : Option D15 := runes_Bytes.p0 fuel a
def F_runes_Bytes : FSpec cx.toNm := { ps := [.val (.int .i64)], nres := 1, rt := .str, rm := .ro, f := s_runes_Bytes }
theorem ok_runes_Bytes : FnOk Try.prog F_runes_Bytes 73 := fn_of (F := F_runes_Bytes) (hn := runes_Bytes.h) (E := runes_Bytes.E) cxOk (tysT _ _ _) (fs_cons ok_runes_isSign fs_nil) follows Try.func73 (by kernel_rfl) (fun a r h => ⟨fuel, (congrFun (runes_Bytes.o0 fuel) a).trans ((by kernel_rfl : s_runes_Bytes a = F_runes_Bytes.f a).trans h)⟩)
namespace regex_sign
def E : Env cx := { tys := tys, fs := fsOf [(28, F_regex_group), (60, F_bytesets_Of), (70, F_regex_one), (73, F_runes_Bytes)] }
abbrev R := Option (D21)
def h : Hint := { vs := [0, 2, 3, 5, 8, 9, 10], ret := ([2], [2]), nil := [(3, (.own .ro))], cuts := [(3, ([2, 3, 8, 9, 10], [2]), ([2, 3], [2])), (7, ([2, 3], [2]), ([2, 3], [2]))] }
def W : Pr cx (D21) := ⟨E, h, bodyC Try.f61, fin (S := cx) E Try.f61.results.toList t7 .ro [] []⟩
abbrev T2 := D0 → D2 → R
abbrev T1 := D0 → (List Int) → Int → Int → D2 → R
abbrev T0 := D19 → R
def u0 (k : Nat) : T0 := fun a => runOf (S := cx) E h k Try.f61 [.val (.int .i64)] t7 .ro a
abbrev l2 (c : Bool) (k : Nat) : T2 := fun x3 m2 => lfR c W k [1, 1, 1] [] ⟨[(2, vA 2), (3, .v t4 (.own .ro) x3)], [], [(2, ⟨t7, .ro, m2⟩)]⟩
abbrev l1 (c : Bool) (k n1 : Nat) : T1 := fun x3 x8 x9 x10 m2 => lfL c W k [1, 1, 0, 1, 0] [] n1 ⟨[(2, vA 2), (3, .v t4 (.own .ro) x3), (8, vR t22 x8), (9, vI x9), (10, vI x10)], [], [(2, ⟨t7, .ro, m2⟩)]⟩
def t2 : T2 := fun x3 m2 => (bindR (s_regex_group ((2 : Int), (x3, ()))) fun r5 => (some (r5.1, ())))
def p2 (k : Nat) : T2 := t2
theorem o2 (k : Nat) : l2 true k = p2 k := lfo (b := l2 false k) (fx2 fun _ _ => lcR) (by kernel_rfl) rfl
def t1 (f1 : T1) (f2 : T2) : T1 := fun x3 x8 x9 x10 m2 => (iteB (decide (x10 < x9)) (withinR x10 (List.length x8) fun q2 => (bindR (s_bytesets_Of (([(List.getD x8 q2 (0 : Int))] : List (Int)), ())) fun r3 => (bindR (s_regex_one (r3.1, ())) fun r4 => (mustR (room x3 ([(pk0 r4.1)] : List (N0))) (f1 (x3 ++ ([(pk0 r4.1)] : List (N0))) x8 x9 (w64 (x10 + (1 : Int))) m2))))) (f2 x3 m2))
def p1 (k : Nat) : Nat → T1 := iter fun f => t1 f (p2 k)
theorem o1 (k : Nat) : ∀ n, l1 true k n = p1 k n := oL (u := l1 false k) (by kernel_rfl) (fun n1 => (fx5 fun _ _ _ _ _ => lcL)) (fun n1 => by kernel_rfl) (fun n1 f h => (congr (congrArg t1 h) (o2 k)))
def t0 (f1 : T1) : T0 := fun a => (bindR (s_runes_Bytes (a.1, ())) fun r1 => (f1 ([] : List (N0)) (intsOf r1.1) ((List.length (intsOf r1.1) : Nat) : Int) (0 : Int) ((0 : Int), ((List.replicate 4 (0 : Int)), ([] : List (N0))))))
def p0 (k : Nat) : T0 := t0 (p1 k k)
theorem o0 (k : Nat) : u0 k = p0 k := Eq.trans (by kernel_rfl) (congrArg t0 (o1 k k))
end regex_sign
def s_regex_sign (a : D19) : Option D21 := regex_sign.p0 fuel a
def F_regex_sign : FSpec cx.toNm := { ps := [.val (.int .i64)], nres := 1, rt := t7, rm := .ro, f := s_regex_sign }
theorem ok_regex_sign : FnOk Try.prog F_regex_sign 61 := fn_of (F := F_regex_sign) (hn := regex_sign.h) (E := regex_sign.E) cxOk (tysT _ _ _) (fs_cons ok_regex_group (fs_cons ok_bytesets_Of (fs_cons ok_regex_one (fs_cons ok_runes_Bytes fs_nil)))) follows Try.func61 (by kernel_rfl) (fun a r h => ⟨fuel, (congrFun (regex_sign.o0 fuel) a).trans ((by kernel_rfl : s_regex_sign a = F_regex_sign.f a).trans h)⟩)
def Fr_regex_size (f : D28 → Option D19) : FSpec cx.toNm := { ps := [.val t7, .val (.int .i64)], nres := 1, rt := (.int .i64), rm := .ro, f := f }
namespace regex_size
def E (sf_regex_size : D28 → Option D19) : Env cx := { tys := tys, fs := fsOf [(22, Fr_regex_size sf_regex_size)] }
abbrev R := Option (D19)
def h : Hint := { vs := [0, 1, 2, 4, 5, 6, 8, 9, 43, 44, 45], ret := ([4], [2, 8]), cuts := [(3, ([1, 2, 5, 13], [2]), ([1, 2], [2])), (6, ([1, 2], [2]), ([1, 2], [2])), (8, ([1, 6, 43, 44, 45], []), ([6], [])), (13, ([1, 6, 43, 44, 45, 61], []), ([1, 6, 43, 44, 45], [])), (14, ([1, 6, 43, 44, 45], []), ([1, 6, 43, 44, 45], [])), (15, ([6], []), ([6], []))] }
def W (sf_regex_size : D28 → Option D19) : Pr cx (D19) := ⟨(E sf_regex_size), h, bodyC Try.f22, fin (S := cx) (E sf_regex_size) Try.f22.results.toList (.int .i64) .ro [] []⟩
abbrev T6 := Int → Int → D0 → Int → Int → R
abbrev T4 := Int → Int → D0 → Int → Int → Bool → R
abbrev T5 := Int → R
abbrev T3 := Int → Int → D0 → Int → Int → R
abbrev T2 := Int → D2 → R
abbrev T1 := Int → Int → Bool → D2 → R
abbrev T0 := D28 → R
def u0 (sf_regex_size : D28 → Option D19) (k : Nat) : T0 := fun a => runOf (S := cx) (E sf_regex_size) h k Try.f22 [.val t7, .val (.int .i64)] (.int .i64) .ro a
abbrev l6 (sf_regex_size : D28 → Option D19) (c : Bool) (k n3 : Nat) : T6 := fun x1 x6 x43 x44 x45 => lfR c (W sf_regex_size) k [1, 1, 1, 1, 0, 1, 0, 0, 1, 1, 1] [n3] ⟨[(1, vI x1), (6, vI x6), (43, vR t4 x43), (44, vI x44), (45, vI x45)], [], []⟩
abbrev l4 (sf_regex_size : D28 → Option D19) (c : Bool) (k n3 : Nat) : T4 := fun x1 x6 x43 x44 x45 x61 => lfR c (W sf_regex_size) k [1, 1, 1, 1, 0, 1, 0, 0, 1, 1, 0, 0, 1, 1, 1, 1] [n3] ⟨[(1, vI x1), (6, vI x6), (43, vR t4 x43), (44, vI x44), (45, vI x45), (61, vB x61)], [], []⟩
abbrev l5 (sf_regex_size : D28 → Option D19) (c : Bool) (k : Nat) : T5 := fun x6 => lfR c (W sf_regex_size) k [1, 1, 1, 1, 1] [] ⟨[(6, vI x6)], [], []⟩
abbrev l3 (sf_regex_size : D28 → Option D19) (c : Bool) (k n3 : Nat) : T3 := fun x1 x6 x43 x44 x45 => lfL c (W sf_regex_size) k [1, 1, 1, 1, 0, 1, 0] [] n3 ⟨[(1, vI x1), (6, vI x6), (43, vR t4 x43), (44, vI x44), (45, vI x45)], [], []⟩
abbrev l2 (sf_regex_size : D28 → Option D19) (c : Bool) (k : Nat) : T2 := fun x1 m2 => lfR c (W sf_regex_size) k [1, 1, 1] [] ⟨[(1, vI x1), (2, vA 2)], [], [(2, ⟨t7, .ro, m2⟩)]⟩
abbrev l1 (sf_regex_size : D28 → Option D19) (c : Bool) (k : Nat) : T1 := fun x1 x5 x13 m2 => lfR c (W sf_regex_size) k [1, 1, 0, 0, 1] [] ⟨[(1, vI x1), (2, vA 2), (5, vI x5), (13, vB x13)], [], [(2, ⟨t7, .ro, m2⟩)]⟩
def t6 (sf_regex_size : D28 → Option D19) (f3 : T3) : T6 := fun x1 x6 x43 x44 x45 => (f3 x1 x6 x43 x44 (w64 (x45 + (1 : Int))))
def p6 (sf_regex_size : D28 → Option D19) (k : Nat) (a3 : T3) : T6 := t6 sf_regex_size a3
theorem o6 (sf_regex_size : D28 → Option D19) (k n3 : Nat) (a3 : T3) (h3 : l3 sf_regex_size true k n3 = a3) : l6 sf_regex_size true k n3 = p6 sf_regex_size k a3 := lfo (b := l6 sf_regex_size false k n3) (fx5 fun _ _ _ _ _ => lcR) (by kernel_rfl) (congrArg (t6 sf_regex_size) h3)
def t4 (sf_regex_size : D28 → Option D19) (f6 : T6) : T4 := fun x1 x6 x43 x44 x45 x61 => (iteB x61 (some ((0 : Int), ())) (f6 x1 x6 x43 x44 x45))
def p4 (sf_regex_size : D28 → Option D19) (k : Nat) (a3 : T3) : T4 := t4 sf_regex_size (p6 sf_regex_size k a3)
theorem o4 (sf_regex_size : D28 → Option D19) (k n3 : Nat) (a3 : T3) (h3 : l3 sf_regex_size true k n3 = a3) : l4 sf_regex_size true k n3 = p4 sf_regex_size k a3 := lfo (b := l4 sf_regex_size false k n3) (fx6 fun _ _ _ _ _ _ => lcR) (by kernel_rfl) (congrArg (t4 sf_regex_size) (o6 sf_regex_size k n3 a3 h3))
def t5 (sf_regex_size : D28 → Option D19) : T5 := fun x6 => (some (x6, ()))
def p5 (sf_regex_size : D28 → Option D19) (k : Nat) : T5 := t5 sf_regex_size
theorem o5 (sf_regex_size : D28 → Option D19) (k : Nat) : l5 sf_regex_size true k = p5 sf_regex_size k := lfo (b := l5 sf_regex_size false k) (fx1 fun _ => lcR) (by kernel_rfl) rfl
def t3 (sf_regex_size : D28 → Option D19) (f4 : T4) (f5 : T5) : T3 := fun x1 x6 x43 x44 x45 => (iteB (decide (x45 < x44)) (withinR x45 (List.length x43) fun q1 => (bindR (sf_regex_size ((out0 (List.getD x43 q1 (pk0 ((0 : Int), ((List.replicate 4 (0 : Int)), ([] : List (N0))))))), ((w64 (x1 + (1 : Int))), ()))) fun r2 => (iteB (decide (r2.1 = (0 : Int))) (f4 x1 (w64 (x6 + r2.1)) x43 x44 x45 true) (f4 x1 (w64 (x6 + r2.1)) x43 x44 x45 (decide ((400 : Int) < (w64 (x6 + r2.1)))))))) (f5 x6))
def p3 (sf_regex_size : D28 → Option D19) (k : Nat) : Nat → T3 := iter fun f => t3 sf_regex_size (p4 sf_regex_size k f) (p5 sf_regex_size k)
theorem o3 (sf_regex_size : D28 → Option D19) (k : Nat) : ∀ n, l3 sf_regex_size true k n = p3 sf_regex_size k n := oL (u := l3 sf_regex_size false k) (by kernel_rfl) (fun n3 => (fx5 fun _ _ _ _ _ => lcL)) (fun n3 => by kernel_rfl) (fun n3 f h => (congr (congrArg (t3 sf_regex_size) (o4 sf_regex_size k n3 f h)) (o5 sf_regex_size k)))
def t2 (sf_regex_size : D28 → Option D19) (f3 : T3) : T2 := fun x1 m2 => (f3 x1 (1 : Int) m2.2.2 ((List.length m2.2.2 : Nat) : Int) (0 : Int))
def p2 (sf_regex_size : D28 → Option D19) (k : Nat) : T2 := t2 sf_regex_size (p3 sf_regex_size k k)
theorem o2 (sf_regex_size : D28 → Option D19) (k : Nat) : l2 sf_regex_size true k = p2 sf_regex_size k := lfo (b := l2 sf_regex_size false k) (fx2 fun _ _ => lcR) (by kernel_rfl) (congrArg (t2 sf_regex_size) (o3 sf_regex_size k k))
def t1 (sf_regex_size : D28 → Option D19) (f2 : T2) : T1 := fun x1 x5 x13 m2 => (iteB x13 (some ((0 : Int), ())) (iteB (decide ((400 : Int) < x5)) (some ((0 : Int), ())) (f2 x1 m2)))
def p1 (sf_regex_size : D28 → Option D19) (k : Nat) : T1 := t1 sf_regex_size (p2 sf_regex_size k)
theorem o1 (sf_regex_size : D28 → Option D19) (k : Nat) : l1 sf_regex_size true k = p1 sf_regex_size k := lfo (b := l1 sf_regex_size false k) (fx4 fun _ _ _ _ => lcR) (by kernel_rfl) (congrArg (t1 sf_regex_size) (o2 sf_regex_size k))
def t0 (sf_regex_size : D28 → Option D19) (f1 : T1) : T0 := fun a => (iteB (decide ((60 : Int) < a.2.1)) (f1 a.2.1 ((List.length a.1.2.2 : Nat) : Int) true a.1) (iteB (decide ((4 : Int) < a.1.1)) (f1 a.2.1 ((List.length a.1.2.2 : Nat) : Int) true a.1) (iteB (decide (a.1.1 = (4 : Int))) (iteB (!decide (((List.length a.1.2.2 : Nat) : Int) = (1 : Int))) (f1 a.2.1 ((List.length a.1.2.2 : Nat) : Int) true a.1) (iteB (decide (a.1.1 ≤ (1 : Int))) (f1 a.2.1 ((List.length a.1.2.2 : Nat) : Int) (!decide (((List.length a.1.2.2 : Nat) : Int) = (0 : Int))) a.1) (f1 a.2.1 ((List.length a.1.2.2 : Nat) : Int) false a.1))) (iteB (decide (a.1.1 ≤ (1 : Int))) (f1 a.2.1 ((List.length a.1.2.2 : Nat) : Int) (!decide (((List.length a.1.2.2 : Nat) : Int) = (0 : Int))) a.1) (f1 a.2.1 ((List.length a.1.2.2 : Nat) : Int) false a.1)))))
def p0 (sf_regex_size : D28 → Option D19) (k : Nat) : T0 := t0 sf_regex_size (p1 sf_regex_size k)
theorem o0 (sf_regex_size : D28 → Option D19) (k : Nat) : u0 sf_regex_size k = p0 sf_regex_size k := Eq.trans (by kernel_rfl) (congrArg (t0 sf_regex_size) (o1 sf_regex_size k))
end regex_size
def r_regex_size : Nat → D28 → Option D19
  | 0, _ => none
  | n + 1, a => regex_size.p0 (r_regex_size n) fuel a
theorem okr_regex_size : ∀ n, FnOk Try.prog (Fr_regex_size (r_regex_size n)) 22
  | 0 => fn_none (fun _ => rfl)
  | n + 1 => fn_of (F := Fr_regex_size (r_regex_size (n + 1))) (hn := regex_size.h) (E := regex_size.E (r_regex_size n)) cxOk (tysT _ _ _) (fs_cons (okr_regex_size n) fs_nil) follows Try.func22 (by kernel_rfl) (fun a r h => ⟨fuel, Eq.trans (congrFun (regex_size.o0 (r_regex_size n) fuel) a) h⟩)
def s_regex_size (a : D28) : Option D19 := r_regex_size fuel a
def F_regex_size : FSpec cx.toNm := Fr_regex_size s_regex_size
theorem ok_regex_size : FnOk Try.prog F_regex_size 22 := (okr_regex_size fuel)
namespace regex_reading_cap
def E : Env cx := { tys := tys, fs := fsOf [(22, F_regex_size)] }
abbrev R := Option (D13)
def h : Hint := { vs := [0, 1, 3, 4], ret := ([0, 4], [3, 4, 1000000]) }
def W : Pr cx (D13) := ⟨E, h, bodyC Try.f27, fin (S := cx) E Try.f27.results.toList t7 .ro [1000000] [(t1, .ro)]⟩
abbrev T0 := D24 → R
def u0 (k : Nat) : T0 := fun a => runOf (S := cx) E h k Try.f27 [.io t1 .ro, .val t7] t7 .ro a
def t0 : T0 := fun a => (bindR (s_regex_size (a.2.1, ((1 : Int), ()))) fun r1 => (iteB (decide (r1.1 = (0 : Int))) (some (((0 : Int), ((List.replicate 4 (0 : Int)), ([] : List (N0)))), ((a.1.1, true), ()))) (some (a.2.1, (a.1, ())))))
def p0 (k : Nat) : T0 := t0
theorem o0 (k : Nat) : u0 k = p0 k := Eq.trans (by kernel_rfl) rfl
end regex_reading_cap
def s_regex_reading_cap (a : D24) : Option D13 := regex_reading_cap.p0 fuel a
def F_regex_reading_cap : FSpec cx.toNm := { ps := [.io t1 .ro, .val t7], nres := 1, rt := t7, rm := .ro, f := s_regex_reading_cap }
theorem ok_regex_reading_cap : FnOk Try.prog F_regex_reading_cap 27 := fn_of (F := F_regex_reading_cap) (hn := regex_reading_cap.h) (E := regex_reading_cap.E) cxOk (tysT _ _ _) (fs_cons ok_regex_size fs_nil) follows Try.func27 (by kernel_rfl) (fun a r h => ⟨fuel, (congrFun (regex_reading_cap.o0 fuel) a).trans ((by kernel_rfl : s_regex_reading_cap a = F_regex_reading_cap.f a).trans h)⟩)
def Fr_regex_reading_cat (f : D12 → Option (Option D13)) : FSpec cx.toNm := { ps := [.io t1 .ro], nres := 1, rt := t7, rm := .ro, f := fun _ => none, p := some (42, f) }
def Fr_regex_reading_rep (f : D12 → Option (Option D13)) : FSpec cx.toNm := { ps := [.io t1 .ro], nres := 1, rt := t7, rm := .ro, f := fun _ => none, p := some (42, f) }
def Fr_regex_reading_atom (f : D12 → Option (Option D13)) : FSpec cx.toNm := { ps := [.io t1 .ro], nres := 1, rt := t7, rm := .ro, f := fun _ => none, p := some (42, f) }
def Fr_regex_reading_alt_i1 (f : D12 → Option (Option D13)) : FSpec cx.toNm := { ps := [.io t1 .ro], nres := 1, rt := t7, rm := .ro, f := fun _ => none, p := some (42, f) }
namespace regex_reading_cat
def E (sf_regex_reading_cat : D12 → Option (Option D13)) (sf_regex_reading_rep : D12 → Option (Option D13)) (sf_regex_reading_atom : D12 → Option (Option D13)) (sf_regex_reading_alt_i1 : D12 → Option (Option D13)) : Env cx := { tys := tys, fs := fsOf [(27, F_regex_reading_cap), (28, F_regex_group), (44, F_regex_reading_next), (45, Fr_regex_reading_rep sf_regex_reading_rep)], pt := 42 }
abbrev R := Option (Option (D13))
def h : Hint := { vs := [0, 2, 3, 4], ret := ([0, 2], [2, 1000000]), nil := [(3, (.own .ro))], cuts := [(3, ([0, 2, 3, 4], [2, 1000000]), ([0, 2, 3], [2, 1000000])), (5, ([0, 2, 3], [2, 1000000]), ([0, 2, 3, 4], [2, 1000000])), (6, ([0, 2, 3], [2, 1000000]), ([0, 2, 3], [2, 1000000])), (1000000, ([0, 2, 3, 16], [2, 1000000]), ([0, 2, 3], [2, 1000000]))] }
def W (sf_regex_reading_cat : D12 → Option (Option D13)) (sf_regex_reading_rep : D12 → Option (Option D13)) (sf_regex_reading_atom : D12 → Option (Option D13)) (sf_regex_reading_alt_i1 : D12 → Option (Option D13)) : Pr cx (Option (D13)) := ⟨(E sf_regex_reading_cat sf_regex_reading_rep sf_regex_reading_atom sf_regex_reading_alt_i1), h, bodyC Try.f25, finP (S := cx) (E sf_regex_reading_cat sf_regex_reading_rep sf_regex_reading_atom sf_regex_reading_alt_i1) Try.f25.results.toList t7 .ro [1000000] [(t1, .ro)]⟩
abbrev T3 := D0 → D2 → D4 → R
abbrev T4 := D0 → D2 → D4 → R
abbrev T2 := D0 → Bool → D2 → D4 → R
abbrev T1 := D0 → Int → D2 → D4 → R
abbrev T0 := D12 → R
def u0 (sf_regex_reading_cat : D12 → Option (Option D13)) (sf_regex_reading_rep : D12 → Option (Option D13)) (sf_regex_reading_atom : D12 → Option (Option D13)) (sf_regex_reading_alt_i1 : D12 → Option (Option D13)) (k : Nat) : T0 := fun a => runOfP (S := cx) (E sf_regex_reading_cat sf_regex_reading_rep sf_regex_reading_atom sf_regex_reading_alt_i1) h k Try.f25 [.io t1 .ro] t7 .ro a
abbrev l3 (sf_regex_reading_cat : D12 → Option (Option D13)) (sf_regex_reading_rep : D12 → Option (Option D13)) (sf_regex_reading_atom : D12 → Option (Option D13)) (sf_regex_reading_alt_i1 : D12 → Option (Option D13)) (c : Bool) (k n1 : Nat) : T3 := fun x3 m2 m1000000 => lfR c (W sf_regex_reading_cat sf_regex_reading_rep sf_regex_reading_atom sf_regex_reading_alt_i1) k [1, 1, 0, 1, 0, 0, 1] [n1] ⟨[(0, vA 1000000), (2, vA 2), (3, .v t4 (.own .ro) x3)], [], [(2, ⟨t7, .ro, m2⟩), (1000000, ⟨t1, .ro, m1000000⟩)]⟩
abbrev l4 (sf_regex_reading_cat : D12 → Option (Option D13)) (sf_regex_reading_rep : D12 → Option (Option D13)) (sf_regex_reading_atom : D12 → Option (Option D13)) (sf_regex_reading_alt_i1 : D12 → Option (Option D13)) (c : Bool) (k : Nat) : T4 := fun x3 m2 m1000000 => lfR c (W sf_regex_reading_cat sf_regex_reading_rep sf_regex_reading_atom sf_regex_reading_alt_i1) k [1, 1, 1] [] ⟨[(0, vA 1000000), (2, vA 2), (3, .v t4 (.own .ro) x3)], [], [(2, ⟨t7, .ro, m2⟩), (1000000, ⟨t1, .ro, m1000000⟩)]⟩
abbrev l2 (sf_regex_reading_cat : D12 → Option (Option D13)) (sf_regex_reading_rep : D12 → Option (Option D13)) (sf_regex_reading_atom : D12 → Option (Option D13)) (sf_regex_reading_alt_i1 : D12 → Option (Option D13)) (c : Bool) (k n1 : Nat) : T2 := fun x3 x16 m2 m1000000 => lfR c (W sf_regex_reading_cat sf_regex_reading_rep sf_regex_reading_atom sf_regex_reading_alt_i1) k [1, 1, 0, 1, 0, 0, 0, 1] [n1] ⟨[(0, vA 1000000), (2, vA 2), (3, .v t4 (.own .ro) x3), (16, vB x16)], [], [(2, ⟨t7, .ro, m2⟩), (1000000, ⟨t1, .ro, m1000000⟩)]⟩
abbrev l1 (sf_regex_reading_cat : D12 → Option (Option D13)) (sf_regex_reading_rep : D12 → Option (Option D13)) (sf_regex_reading_atom : D12 → Option (Option D13)) (sf_regex_reading_alt_i1 : D12 → Option (Option D13)) (c : Bool) (k n1 : Nat) : T1 := fun x3 x4 m2 m1000000 => lfL c (W sf_regex_reading_cat sf_regex_reading_rep sf_regex_reading_atom sf_regex_reading_alt_i1) k [1, 1, 0, 1, 0] [] n1 ⟨[(0, vA 1000000), (2, vA 2), (3, .v t4 (.own .ro) x3), (4, vI x4)], [], [(2, ⟨t7, .ro, m2⟩), (1000000, ⟨t1, .ro, m1000000⟩)]⟩
def t3 (sf_regex_reading_cat : D12 → Option (Option D13)) (sf_regex_reading_rep : D12 → Option (Option D13)) (sf_regex_reading_atom : D12 → Option (Option D13)) (sf_regex_reading_alt_i1 : D12 → Option (Option D13)) (f1 : T1) : T3 := fun x3 m2 m1000000 => (bindQ (sf_regex_reading_rep (m1000000, ())) (some none) fun r2 => (mustR (room x3 ([(pk0 r2.1)] : List (N0))) (bindR (s_regex_reading_next (r2.2.1, ())) fun r3 => (f1 (x3 ++ ([(pk0 r2.1)] : List (N0))) r3.1 m2 r3.2.1))))
def p3 (sf_regex_reading_cat : D12 → Option (Option D13)) (sf_regex_reading_rep : D12 → Option (Option D13)) (sf_regex_reading_atom : D12 → Option (Option D13)) (sf_regex_reading_alt_i1 : D12 → Option (Option D13)) (k : Nat) (a1 : T1) : T3 := t3 sf_regex_reading_cat sf_regex_reading_rep sf_regex_reading_atom sf_regex_reading_alt_i1 a1
theorem o3 (sf_regex_reading_cat : D12 → Option (Option D13)) (sf_regex_reading_rep : D12 → Option (Option D13)) (sf_regex_reading_atom : D12 → Option (Option D13)) (sf_regex_reading_alt_i1 : D12 → Option (Option D13)) (k n1 : Nat) (a1 : T1) (h1 : l1 sf_regex_reading_cat sf_regex_reading_rep sf_regex_reading_atom sf_regex_reading_alt_i1 true k n1 = a1) : l3 sf_regex_reading_cat sf_regex_reading_rep sf_regex_reading_atom sf_regex_reading_alt_i1 true k n1 = p3 sf_regex_reading_cat sf_regex_reading_rep sf_regex_reading_atom sf_regex_reading_alt_i1 k a1 := lfo (b := l3 sf_regex_reading_cat sf_regex_reading_rep sf_regex_reading_atom sf_regex_reading_alt_i1 false k n1) (fx3 fun _ _ _ => lcR) (by kernel_rfl) (congrArg (t3 sf_regex_reading_cat sf_regex_reading_rep sf_regex_reading_atom sf_regex_reading_alt_i1) h1)
def t4 (sf_regex_reading_cat : D12 → Option (Option D13)) (sf_regex_reading_rep : D12 → Option (Option D13)) (sf_regex_reading_atom : D12 → Option (Option D13)) (sf_regex_reading_alt_i1 : D12 → Option (Option D13)) : T4 := fun x3 m2 m1000000 => (iteB (decide (((List.length x3 : Nat) : Int) = (0 : Int))) (some (some (((0 : Int), ((List.replicate 4 (0 : Int)), ([] : List (N0)))), (m1000000, ())))) (bindR (s_regex_group ((2 : Int), (x3, ()))) fun r4 => (bindR (s_regex_reading_cap (m1000000, (r4.1, ()))) fun r5 => (some (some (r5.1, (r5.2.1, ())))))))
def p4 (sf_regex_reading_cat : D12 → Option (Option D13)) (sf_regex_reading_rep : D12 → Option (Option D13)) (sf_regex_reading_atom : D12 → Option (Option D13)) (sf_regex_reading_alt_i1 : D12 → Option (Option D13)) (k : Nat) : T4 := t4 sf_regex_reading_cat sf_regex_reading_rep sf_regex_reading_atom sf_regex_reading_alt_i1
theorem o4 (sf_regex_reading_cat : D12 → Option (Option D13)) (sf_regex_reading_rep : D12 → Option (Option D13)) (sf_regex_reading_atom : D12 → Option (Option D13)) (sf_regex_reading_alt_i1 : D12 → Option (Option D13)) (k : Nat) : l4 sf_regex_reading_cat sf_regex_reading_rep sf_regex_reading_atom sf_regex_reading_alt_i1 true k = p4 sf_regex_reading_cat sf_regex_reading_rep sf_regex_reading_atom sf_regex_reading_alt_i1 k := lfo (b := l4 sf_regex_reading_cat sf_regex_reading_rep sf_regex_reading_atom sf_regex_reading_alt_i1 false k) (fx3 fun _ _ _ => lcR) (by kernel_rfl) rfl
def t2 (sf_regex_reading_cat : D12 → Option (Option D13)) (sf_regex_reading_rep : D12 → Option (Option D13)) (sf_regex_reading_atom : D12 → Option (Option D13)) (sf_regex_reading_alt_i1 : D12 → Option (Option D13)) (f3 : T3) (f4 : T4) : T2 := fun x3 x16 m2 m1000000 => (iteB x16 (f3 x3 m2 m1000000) (f4 x3 m2 m1000000))
def p2 (sf_regex_reading_cat : D12 → Option (Option D13)) (sf_regex_reading_rep : D12 → Option (Option D13)) (sf_regex_reading_atom : D12 → Option (Option D13)) (sf_regex_reading_alt_i1 : D12 → Option (Option D13)) (k : Nat) (a1 : T1) : T2 := t2 sf_regex_reading_cat sf_regex_reading_rep sf_regex_reading_atom sf_regex_reading_alt_i1 (p3 sf_regex_reading_cat sf_regex_reading_rep sf_regex_reading_atom sf_regex_reading_alt_i1 k a1) (p4 sf_regex_reading_cat sf_regex_reading_rep sf_regex_reading_atom sf_regex_reading_alt_i1 k)
theorem o2 (sf_regex_reading_cat : D12 → Option (Option D13)) (sf_regex_reading_rep : D12 → Option (Option D13)) (sf_regex_reading_atom : D12 → Option (Option D13)) (sf_regex_reading_alt_i1 : D12 → Option (Option D13)) (k n1 : Nat) (a1 : T1) (h1 : l1 sf_regex_reading_cat sf_regex_reading_rep sf_regex_reading_atom sf_regex_reading_alt_i1 true k n1 = a1) : l2 sf_regex_reading_cat sf_regex_reading_rep sf_regex_reading_atom sf_regex_reading_alt_i1 true k n1 = p2 sf_regex_reading_cat sf_regex_reading_rep sf_regex_reading_atom sf_regex_reading_alt_i1 k a1 := lfo (b := l2 sf_regex_reading_cat sf_regex_reading_rep sf_regex_reading_atom sf_regex_reading_alt_i1 false k n1) (fx4 fun _ _ _ _ => lcR) (by kernel_rfl) (by have h := (congr (congrArg (t2 sf_regex_reading_cat sf_regex_reading_rep sf_regex_reading_atom sf_regex_reading_alt_i1) (o3 sf_regex_reading_cat sf_regex_reading_rep sf_regex_reading_atom sf_regex_reading_alt_i1 k n1 a1 h1)) (o4 sf_regex_reading_cat sf_regex_reading_rep sf_regex_reading_atom sf_regex_reading_alt_i1 k)); exact h)
def t1 (sf_regex_reading_cat : D12 → Option (Option D13)) (sf_regex_reading_rep : D12 → Option (Option D13)) (sf_regex_reading_atom : D12 → Option (Option D13)) (sf_regex_reading_alt_i1 : D12 → Option (Option D13)) (f2 : T2) : T1 := fun x3 x4 m2 m1000000 => (iteB (decide ((0 : Int) ≤ x4)) (iteB (!decide (x4 = (124 : Int))) (f2 x3 (!decide (x4 = (41 : Int))) m2 m1000000) (f2 x3 false m2 m1000000)) (f2 x3 false m2 m1000000))
def p1 (sf_regex_reading_cat : D12 → Option (Option D13)) (sf_regex_reading_rep : D12 → Option (Option D13)) (sf_regex_reading_atom : D12 → Option (Option D13)) (sf_regex_reading_alt_i1 : D12 → Option (Option D13)) (k : Nat) : Nat → T1 := iter fun f => t1 sf_regex_reading_cat sf_regex_reading_rep sf_regex_reading_atom sf_regex_reading_alt_i1 (p2 sf_regex_reading_cat sf_regex_reading_rep sf_regex_reading_atom sf_regex_reading_alt_i1 k f)
theorem o1 (sf_regex_reading_cat : D12 → Option (Option D13)) (sf_regex_reading_rep : D12 → Option (Option D13)) (sf_regex_reading_atom : D12 → Option (Option D13)) (sf_regex_reading_alt_i1 : D12 → Option (Option D13)) (k : Nat) : ∀ n, l1 sf_regex_reading_cat sf_regex_reading_rep sf_regex_reading_atom sf_regex_reading_alt_i1 true k n = p1 sf_regex_reading_cat sf_regex_reading_rep sf_regex_reading_atom sf_regex_reading_alt_i1 k n := oL (u := l1 sf_regex_reading_cat sf_regex_reading_rep sf_regex_reading_atom sf_regex_reading_alt_i1 false k) (by kernel_rfl) (fun n1 => (fx4 fun _ _ _ _ => lcL)) (fun n1 => by kernel_rfl) (fun n1 f h => (congrArg (t1 sf_regex_reading_cat sf_regex_reading_rep sf_regex_reading_atom sf_regex_reading_alt_i1) (o2 sf_regex_reading_cat sf_regex_reading_rep sf_regex_reading_atom sf_regex_reading_alt_i1 k n1 f h)))
def t0 (sf_regex_reading_cat : D12 → Option (Option D13)) (sf_regex_reading_rep : D12 → Option (Option D13)) (sf_regex_reading_atom : D12 → Option (Option D13)) (sf_regex_reading_alt_i1 : D12 → Option (Option D13)) (f1 : T1) : T0 := fun a => (bindR (s_regex_reading_next (a.1, ())) fun r1 => (f1 ([] : List (N0)) r1.1 ((0 : Int), ((List.replicate 4 (0 : Int)), ([] : List (N0)))) r1.2.1))
def p0 (sf_regex_reading_cat : D12 → Option (Option D13)) (sf_regex_reading_rep : D12 → Option (Option D13)) (sf_regex_reading_atom : D12 → Option (Option D13)) (sf_regex_reading_alt_i1 : D12 → Option (Option D13)) (k : Nat) : T0 := t0 sf_regex_reading_cat sf_regex_reading_rep sf_regex_reading_atom sf_regex_reading_alt_i1 (p1 sf_regex_reading_cat sf_regex_reading_rep sf_regex_reading_atom sf_regex_reading_alt_i1 k k)
theorem o0 (sf_regex_reading_cat : D12 → Option (Option D13)) (sf_regex_reading_rep : D12 → Option (Option D13)) (sf_regex_reading_atom : D12 → Option (Option D13)) (sf_regex_reading_alt_i1 : D12 → Option (Option D13)) (k : Nat) : u0 sf_regex_reading_cat sf_regex_reading_rep sf_regex_reading_atom sf_regex_reading_alt_i1 k = p0 sf_regex_reading_cat sf_regex_reading_rep sf_regex_reading_atom sf_regex_reading_alt_i1 k := Eq.trans (by kernel_rfl) (congrArg (t0 sf_regex_reading_cat sf_regex_reading_rep sf_regex_reading_atom sf_regex_reading_alt_i1) (o1 sf_regex_reading_cat sf_regex_reading_rep sf_regex_reading_atom sf_regex_reading_alt_i1 k k))
end regex_reading_cat
namespace regex_reading_rep
def E (sf_regex_reading_cat : D12 → Option (Option D13)) (sf_regex_reading_rep : D12 → Option (Option D13)) (sf_regex_reading_atom : D12 → Option (Option D13)) (sf_regex_reading_alt_i1 : D12 → Option (Option D13)) : Env cx := { tys := tys, fs := fsOf [(26, F_regex_reading_is), (27, F_regex_reading_cap), (28, F_regex_group), (51, Fr_regex_reading_atom sf_regex_reading_atom)], pt := 42 }
abbrev R := Option (Option (D13))
def h : Hint := { vs := [0, 2, 3], ret := ([0, 2], [2, 3, 1000000]), nil := [(3, .ro)], cuts := [(3, ([0, 2, 3], [2, 3, 1000000]), ([0, 2, 3], [2, 3, 1000000])), (9, ([0, 2, 3], [2, 3, 1000000]), ([0, 2, 3], [2, 3, 1000000]))] }
def W (sf_regex_reading_cat : D12 → Option (Option D13)) (sf_regex_reading_rep : D12 → Option (Option D13)) (sf_regex_reading_atom : D12 → Option (Option D13)) (sf_regex_reading_alt_i1 : D12 → Option (Option D13)) : Pr cx (Option (D13)) := ⟨(E sf_regex_reading_cat sf_regex_reading_rep sf_regex_reading_atom sf_regex_reading_alt_i1), h, bodyC Try.f45, finP (S := cx) (E sf_regex_reading_cat sf_regex_reading_rep sf_regex_reading_atom sf_regex_reading_alt_i1) Try.f45.results.toList t7 .ro [1000000] [(t1, .ro)]⟩
abbrev T2 := D2 → D2 → D4 → R
abbrev T1 := D2 → D2 → D4 → R
abbrev T0 := D12 → R
def u0 (sf_regex_reading_cat : D12 → Option (Option D13)) (sf_regex_reading_rep : D12 → Option (Option D13)) (sf_regex_reading_atom : D12 → Option (Option D13)) (sf_regex_reading_alt_i1 : D12 → Option (Option D13)) (k : Nat) : T0 := fun a => runOfP (S := cx) (E sf_regex_reading_cat sf_regex_reading_rep sf_regex_reading_atom sf_regex_reading_alt_i1) h k Try.f45 [.io t1 .ro] t7 .ro a
abbrev l2 (sf_regex_reading_cat : D12 → Option (Option D13)) (sf_regex_reading_rep : D12 → Option (Option D13)) (sf_regex_reading_atom : D12 → Option (Option D13)) (sf_regex_reading_alt_i1 : D12 → Option (Option D13)) (c : Bool) (k n1 : Nat) : T2 := fun m2 m3 m1000000 => lfR c (W sf_regex_reading_cat sf_regex_reading_rep sf_regex_reading_atom sf_regex_reading_alt_i1) k [1, 1, 0, 0, 0, 1] [n1] ⟨[(0, vA 1000000), (2, vA 2), (3, vA 3)], [], [(2, ⟨t7, .ro, m2⟩), (3, ⟨t7, .ro, m3⟩), (1000000, ⟨t1, .ro, m1000000⟩)]⟩
abbrev l1 (sf_regex_reading_cat : D12 → Option (Option D13)) (sf_regex_reading_rep : D12 → Option (Option D13)) (sf_regex_reading_atom : D12 → Option (Option D13)) (sf_regex_reading_alt_i1 : D12 → Option (Option D13)) (c : Bool) (k n1 : Nat) : T1 := fun m2 m3 m1000000 => lfL c (W sf_regex_reading_cat sf_regex_reading_rep sf_regex_reading_atom sf_regex_reading_alt_i1) k [1, 1, 0] [] n1 ⟨[(0, vA 1000000), (2, vA 2), (3, vA 3)], [], [(2, ⟨t7, .ro, m2⟩), (3, ⟨t7, .ro, m3⟩), (1000000, ⟨t1, .ro, m1000000⟩)]⟩
def t2 (sf_regex_reading_cat : D12 → Option (Option D13)) (sf_regex_reading_rep : D12 → Option (Option D13)) (sf_regex_reading_atom : D12 → Option (Option D13)) (sf_regex_reading_alt_i1 : D12 → Option (Option D13)) (f1 : T1) : T2 := fun m2 m3 m1000000 => (bindR (s_regex_reading_cap (m1000000, (m3, ()))) fun r7 => (f1 m2 r7.1 r7.2.1))
def p2 (sf_regex_reading_cat : D12 → Option (Option D13)) (sf_regex_reading_rep : D12 → Option (Option D13)) (sf_regex_reading_atom : D12 → Option (Option D13)) (sf_regex_reading_alt_i1 : D12 → Option (Option D13)) (k : Nat) (a1 : T1) : T2 := t2 sf_regex_reading_cat sf_regex_reading_rep sf_regex_reading_atom sf_regex_reading_alt_i1 a1
theorem o2 (sf_regex_reading_cat : D12 → Option (Option D13)) (sf_regex_reading_rep : D12 → Option (Option D13)) (sf_regex_reading_atom : D12 → Option (Option D13)) (sf_regex_reading_alt_i1 : D12 → Option (Option D13)) (k n1 : Nat) (a1 : T1) (h1 : l1 sf_regex_reading_cat sf_regex_reading_rep sf_regex_reading_atom sf_regex_reading_alt_i1 true k n1 = a1) : l2 sf_regex_reading_cat sf_regex_reading_rep sf_regex_reading_atom sf_regex_reading_alt_i1 true k n1 = p2 sf_regex_reading_cat sf_regex_reading_rep sf_regex_reading_atom sf_regex_reading_alt_i1 k a1 := lfo (b := l2 sf_regex_reading_cat sf_regex_reading_rep sf_regex_reading_atom sf_regex_reading_alt_i1 false k n1) (fx3 fun _ _ _ => lcR) (by kernel_rfl) (congrArg (t2 sf_regex_reading_cat sf_regex_reading_rep sf_regex_reading_atom sf_regex_reading_alt_i1) h1)
def t1 (sf_regex_reading_cat : D12 → Option (Option D13)) (sf_regex_reading_rep : D12 → Option (Option D13)) (sf_regex_reading_atom : D12 → Option (Option D13)) (sf_regex_reading_alt_i1 : D12 → Option (Option D13)) (f2 : T2) : T1 := fun m2 m3 m1000000 => (bindQ (s_regex_reading_is (m1000000, ((42 : Int), ()))) (some none) fun r2 => (iteB r2.1 (f2 m2 ((4 : Int), ((List.replicate 4 (0 : Int)), ([(pk0 m3)] : List (N0)))) r2.2.1) (bindQ (s_regex_reading_is (r2.2.1, ((43 : Int), ()))) (some none) fun r3 => (iteB r3.1 (bindR (s_regex_group ((2 : Int), (([(pk0 m3), (pk0 ((4 : Int), ((List.replicate 4 (0 : Int)), ([(pk0 m3)] : List (N0)))))] : List (N0)), ()))) fun r4 => (f2 m2 r4.1 r3.2.1)) (bindQ (s_regex_reading_is (r3.2.1, ((63 : Int), ()))) (some none) fun r5 => (iteB r5.1 (bindR (s_regex_group ((3 : Int), (([(pk0 m3), (pk0 ((0 : Int), ((List.replicate 4 (0 : Int)), ([] : List (N0)))))] : List (N0)), ()))) fun r6 => (f2 m2 r6.1 r5.2.1)) (some (some (m3, (r5.2.1, ()))))))))))
def p1 (sf_regex_reading_cat : D12 → Option (Option D13)) (sf_regex_reading_rep : D12 → Option (Option D13)) (sf_regex_reading_atom : D12 → Option (Option D13)) (sf_regex_reading_alt_i1 : D12 → Option (Option D13)) (k : Nat) : Nat → T1 := iter fun f => t1 sf_regex_reading_cat sf_regex_reading_rep sf_regex_reading_atom sf_regex_reading_alt_i1 (p2 sf_regex_reading_cat sf_regex_reading_rep sf_regex_reading_atom sf_regex_reading_alt_i1 k f)
theorem o1 (sf_regex_reading_cat : D12 → Option (Option D13)) (sf_regex_reading_rep : D12 → Option (Option D13)) (sf_regex_reading_atom : D12 → Option (Option D13)) (sf_regex_reading_alt_i1 : D12 → Option (Option D13)) (k : Nat) : ∀ n, l1 sf_regex_reading_cat sf_regex_reading_rep sf_regex_reading_atom sf_regex_reading_alt_i1 true k n = p1 sf_regex_reading_cat sf_regex_reading_rep sf_regex_reading_atom sf_regex_reading_alt_i1 k n := oL (u := l1 sf_regex_reading_cat sf_regex_reading_rep sf_regex_reading_atom sf_regex_reading_alt_i1 false k) (by kernel_rfl) (fun n1 => (fx3 fun _ _ _ => lcL)) (fun n1 => by kernel_rfl) (fun n1 f h => (congrArg (t1 sf_regex_reading_cat sf_regex_reading_rep sf_regex_reading_atom sf_regex_reading_alt_i1) (o2 sf_regex_reading_cat sf_regex_reading_rep sf_regex_reading_atom sf_regex_reading_alt_i1 k n1 f h)))
def t0 (sf_regex_reading_cat : D12 → Option (Option D13)) (sf_regex_reading_rep : D12 → Option (Option D13)) (sf_regex_reading_atom : D12 → Option (Option D13)) (sf_regex_reading_alt_i1 : D12 → Option (Option D13)) (f1 : T1) : T0 := fun a => (bindQ (sf_regex_reading_atom (a.1, ())) (some none) fun r1 => (f1 ((0 : Int), ((List.replicate 4 (0 : Int)), ([] : List (N0)))) r1.1 r1.2.1))
def p0 (sf_regex_reading_cat : D12 → Option (Option D13)) (sf_regex_reading_rep : D12 → Option (Option D13)) (sf_regex_reading_atom : D12 → Option (Option D13)) (sf_regex_reading_alt_i1 : D12 → Option (Option D13)) (k : Nat) : T0 := t0 sf_regex_reading_cat sf_regex_reading_rep sf_regex_reading_atom sf_regex_reading_alt_i1 (p1 sf_regex_reading_cat sf_regex_reading_rep sf_regex_reading_atom sf_regex_reading_alt_i1 k k)
theorem o0 (sf_regex_reading_cat : D12 → Option (Option D13)) (sf_regex_reading_rep : D12 → Option (Option D13)) (sf_regex_reading_atom : D12 → Option (Option D13)) (sf_regex_reading_alt_i1 : D12 → Option (Option D13)) (k : Nat) : u0 sf_regex_reading_cat sf_regex_reading_rep sf_regex_reading_atom sf_regex_reading_alt_i1 k = p0 sf_regex_reading_cat sf_regex_reading_rep sf_regex_reading_atom sf_regex_reading_alt_i1 k := Eq.trans (by kernel_rfl) (congrArg (t0 sf_regex_reading_cat sf_regex_reading_rep sf_regex_reading_atom sf_regex_reading_alt_i1) (o1 sf_regex_reading_cat sf_regex_reading_rep sf_regex_reading_atom sf_regex_reading_alt_i1 k k))
end regex_reading_rep
namespace regex_reading_atom
def E (sf_regex_reading_cat : D12 → Option (Option D13)) (sf_regex_reading_rep : D12 → Option (Option D13)) (sf_regex_reading_atom : D12 → Option (Option D13)) (sf_regex_reading_alt_i1 : D12 → Option (Option D13)) : Env cx := { tys := tys, fs := fsOf [(16, Fr_regex_reading_alt_i1 sf_regex_reading_alt_i1), (17, F_need), (26, F_regex_reading_is), (46, F_regex_reading_take), (58, F_regex_reading_class), (59, F_regex_anyBut), (60, F_bytesets_Of), (61, F_regex_sign), (62, F_regex_reading_escaped), (63, F_strings_IndexByte)], pt := 42 }
abbrev R := Option (Option (D13))
def h : Hint := { vs := [0, 2, 3, 4, 7], ret := ([0, 2], [2, 4, 1000000]), cuts := [(14, ([0, 2, 3], [2, 1000000]), ([0, 2, 3], [2, 1000000]))] }
def W (sf_regex_reading_cat : D12 → Option (Option D13)) (sf_regex_reading_rep : D12 → Option (Option D13)) (sf_regex_reading_atom : D12 → Option (Option D13)) (sf_regex_reading_alt_i1 : D12 → Option (Option D13)) : Pr cx (Option (D13)) := ⟨(E sf_regex_reading_cat sf_regex_reading_rep sf_regex_reading_atom sf_regex_reading_alt_i1), h, bodyC Try.f51, finP (S := cx) (E sf_regex_reading_cat sf_regex_reading_rep sf_regex_reading_atom sf_regex_reading_alt_i1) Try.f51.results.toList t7 .ro [1000000] [(t1, .ro)]⟩
abbrev T1 := Int → D2 → D4 → R
abbrev T0 := D12 → R
def u0 (sf_regex_reading_cat : D12 → Option (Option D13)) (sf_regex_reading_rep : D12 → Option (Option D13)) (sf_regex_reading_atom : D12 → Option (Option D13)) (sf_regex_reading_alt_i1 : D12 → Option (Option D13)) (k : Nat) : T0 := fun a => runOfP (S := cx) (E sf_regex_reading_cat sf_regex_reading_rep sf_regex_reading_atom sf_regex_reading_alt_i1) h k Try.f51 [.io t1 .ro] t7 .ro a
abbrev l1 (sf_regex_reading_cat : D12 → Option (Option D13)) (sf_regex_reading_rep : D12 → Option (Option D13)) (sf_regex_reading_atom : D12 → Option (Option D13)) (sf_regex_reading_alt_i1 : D12 → Option (Option D13)) (c : Bool) (k : Nat) : T1 := fun x3 m2 m1000000 => lfR c (W sf_regex_reading_cat sf_regex_reading_rep sf_regex_reading_atom sf_regex_reading_alt_i1) k [1, 1, 1, 1] [] ⟨[(0, vA 1000000), (2, vA 2), (3, vI x3)], [], [(2, ⟨t7, .ro, m2⟩), (1000000, ⟨t1, .ro, m1000000⟩)]⟩
def t1 (sf_regex_reading_cat : D12 → Option (Option D13)) (sf_regex_reading_rep : D12 → Option (Option D13)) (sf_regex_reading_atom : D12 → Option (Option D13)) (sf_regex_reading_alt_i1 : D12 → Option (Option D13)) : T1 := fun x3 m2 m1000000 => (bindR (s_regex_sign (x3, ())) fun r13 => (some (some (r13.1, (m1000000, ())))))
def p1 (sf_regex_reading_cat : D12 → Option (Option D13)) (sf_regex_reading_rep : D12 → Option (Option D13)) (sf_regex_reading_atom : D12 → Option (Option D13)) (sf_regex_reading_alt_i1 : D12 → Option (Option D13)) (k : Nat) : T1 := t1 sf_regex_reading_cat sf_regex_reading_rep sf_regex_reading_atom sf_regex_reading_alt_i1
theorem o1 (sf_regex_reading_cat : D12 → Option (Option D13)) (sf_regex_reading_rep : D12 → Option (Option D13)) (sf_regex_reading_atom : D12 → Option (Option D13)) (sf_regex_reading_alt_i1 : D12 → Option (Option D13)) (k : Nat) : l1 sf_regex_reading_cat sf_regex_reading_rep sf_regex_reading_atom sf_regex_reading_alt_i1 true k = p1 sf_regex_reading_cat sf_regex_reading_rep sf_regex_reading_atom sf_regex_reading_alt_i1 k := lfo (b := l1 sf_regex_reading_cat sf_regex_reading_rep sf_regex_reading_atom sf_regex_reading_alt_i1 false k) (fx3 fun _ _ _ => lcR) (by kernel_rfl) rfl
def t0 (sf_regex_reading_cat : D12 → Option (Option D13)) (sf_regex_reading_rep : D12 → Option (Option D13)) (sf_regex_reading_atom : D12 → Option (Option D13)) (sf_regex_reading_alt_i1 : D12 → Option (Option D13)) (f1 : T1) : T0 := fun a => (bindQ (s_regex_reading_take (a.1, ())) (some none) fun r1 => (iteB (decide (r1.1 = (40 : Int))) (bindQ (sf_regex_reading_alt_i1 (r1.2.1, ())) (some none) fun r2 => (bindQ (s_regex_reading_is (r2.2.1, ((41 : Int), ()))) (some none) fun r3 => (bindQ (s_need (r3.1, ())) (some none) fun r4 => (some (some (r2.1, (r3.2.1, ()))))))) (iteB (decide (r1.1 = (91 : Int))) (bindQ (s_regex_reading_class (r1.2.1, ())) (some none) fun r5 => (some (some (r5.1, (r5.2.1, ()))))) (iteB (decide (r1.1 = (46 : Int))) (bindR (s_bytesets_Of (([(10 : Int)] : List (Int)), ())) fun r6 => (bindR (s_regex_anyBut (r6.1, ())) fun r7 => (some (some (r7.1, (r1.2.1, ())))))) (iteB (decide (r1.1 = (92 : Int))) (bindQ (s_regex_reading_escaped (r1.2.1, ())) (some none) fun r8 => (bindR (s_regex_sign (r8.1, ())) fun r9 => (some (some (r9.1, (r8.2.1, ())))))) (iteB (decide ((128 : Int) ≤ r1.1)) (bindQ (s_need (true, ())) (some none) fun r10 => (f1 r1.1 ((0 : Int), ((List.replicate 4 (0 : Int)), ([] : List (N0)))) r1.2.1)) (bindR (s_strings_IndexByte (([124, 42, 43, 63, 40, 41, 91, 93, 46, 92] : List UInt8), ((w8 (r1.1)), ()))) fun r11 => (bindQ (s_need ((decide (r11.1 < (0 : Int))), ())) (some none) fun r12 => (f1 r1.1 ((0 : Int), ((List.replicate 4 (0 : Int)), ([] : List (N0)))) r1.2.1)))))))))
def p0 (sf_regex_reading_cat : D12 → Option (Option D13)) (sf_regex_reading_rep : D12 → Option (Option D13)) (sf_regex_reading_atom : D12 → Option (Option D13)) (sf_regex_reading_alt_i1 : D12 → Option (Option D13)) (k : Nat) : T0 := t0 sf_regex_reading_cat sf_regex_reading_rep sf_regex_reading_atom sf_regex_reading_alt_i1 (p1 sf_regex_reading_cat sf_regex_reading_rep sf_regex_reading_atom sf_regex_reading_alt_i1 k)
theorem o0 (sf_regex_reading_cat : D12 → Option (Option D13)) (sf_regex_reading_rep : D12 → Option (Option D13)) (sf_regex_reading_atom : D12 → Option (Option D13)) (sf_regex_reading_alt_i1 : D12 → Option (Option D13)) (k : Nat) : u0 sf_regex_reading_cat sf_regex_reading_rep sf_regex_reading_atom sf_regex_reading_alt_i1 k = p0 sf_regex_reading_cat sf_regex_reading_rep sf_regex_reading_atom sf_regex_reading_alt_i1 k := Eq.trans (by kernel_rfl) (congrArg (t0 sf_regex_reading_cat sf_regex_reading_rep sf_regex_reading_atom sf_regex_reading_alt_i1) (o1 sf_regex_reading_cat sf_regex_reading_rep sf_regex_reading_atom sf_regex_reading_alt_i1 k))
end regex_reading_atom
namespace regex_reading_alt_i1
def E (sf_regex_reading_cat : D12 → Option (Option D13)) (sf_regex_reading_rep : D12 → Option (Option D13)) (sf_regex_reading_atom : D12 → Option (Option D13)) (sf_regex_reading_alt_i1 : D12 → Option (Option D13)) : Env cx := { tys := tys, fs := fsOf [(25, Fr_regex_reading_cat sf_regex_reading_cat), (26, F_regex_reading_is), (27, F_regex_reading_cap), (28, F_regex_group)], pt := 42 }
abbrev R := Option (Option (D13))
def h : Hint := { vs := [0, 2, 3], ret := ([0, 2], [2, 1000000]), nil := [(3, (.own .ro)), (6, (.own .ro))], cuts := [(2, ([0, 2, 3], [2, 1000000]), ([0, 2, 3], [2, 1000000])), (4, ([0, 2, 3], [2, 1000000]), ([0, 2, 3], [2, 1000000]))] }
def W (sf_regex_reading_cat : D12 → Option (Option D13)) (sf_regex_reading_rep : D12 → Option (Option D13)) (sf_regex_reading_atom : D12 → Option (Option D13)) (sf_regex_reading_alt_i1 : D12 → Option (Option D13)) : Pr cx (Option (D13)) := ⟨(E sf_regex_reading_cat sf_regex_reading_rep sf_regex_reading_atom sf_regex_reading_alt_i1), h, bodyC Try.f16, finP (S := cx) (E sf_regex_reading_cat sf_regex_reading_rep sf_regex_reading_atom sf_regex_reading_alt_i1) Try.f16.results.toList t7 .ro [1000000] [(t1, .ro)]⟩
abbrev T2 := D0 → D2 → D4 → R
abbrev T1 := D0 → D2 → D4 → R
abbrev T0 := D12 → R
def u0 (sf_regex_reading_cat : D12 → Option (Option D13)) (sf_regex_reading_rep : D12 → Option (Option D13)) (sf_regex_reading_atom : D12 → Option (Option D13)) (sf_regex_reading_alt_i1 : D12 → Option (Option D13)) (k : Nat) : T0 := fun a => runOfP (S := cx) (E sf_regex_reading_cat sf_regex_reading_rep sf_regex_reading_atom sf_regex_reading_alt_i1) h k Try.f16 [.io t1 .ro] t7 .ro a
abbrev l2 (sf_regex_reading_cat : D12 → Option (Option D13)) (sf_regex_reading_rep : D12 → Option (Option D13)) (sf_regex_reading_atom : D12 → Option (Option D13)) (sf_regex_reading_alt_i1 : D12 → Option (Option D13)) (c : Bool) (k : Nat) : T2 := fun x3 m2 m1000000 => lfR c (W sf_regex_reading_cat sf_regex_reading_rep sf_regex_reading_atom sf_regex_reading_alt_i1) k [1, 1, 1] [] ⟨[(0, vA 1000000), (2, vA 2), (3, .v t4 (.own .ro) x3)], [], [(2, ⟨t7, .ro, m2⟩), (1000000, ⟨t1, .ro, m1000000⟩)]⟩
abbrev l1 (sf_regex_reading_cat : D12 → Option (Option D13)) (sf_regex_reading_rep : D12 → Option (Option D13)) (sf_regex_reading_atom : D12 → Option (Option D13)) (sf_regex_reading_alt_i1 : D12 → Option (Option D13)) (c : Bool) (k n1 : Nat) : T1 := fun x3 m2 m1000000 => lfL c (W sf_regex_reading_cat sf_regex_reading_rep sf_regex_reading_atom sf_regex_reading_alt_i1) k [1, 1, 0, 0] [] n1 ⟨[(0, vA 1000000), (2, vA 2), (3, .v t4 (.own .ro) x3)], [], [(2, ⟨t7, .ro, m2⟩), (1000000, ⟨t1, .ro, m1000000⟩)]⟩
def t2 (sf_regex_reading_cat : D12 → Option (Option D13)) (sf_regex_reading_rep : D12 → Option (Option D13)) (sf_regex_reading_atom : D12 → Option (Option D13)) (sf_regex_reading_alt_i1 : D12 → Option (Option D13)) : T2 := fun x3 m2 m1000000 => (bindR (s_regex_group ((3 : Int), (x3, ()))) fun r4 => (bindR (s_regex_reading_cap (m1000000, (r4.1, ()))) fun r5 => (some (some (r5.1, (r5.2.1, ()))))))
def p2 (sf_regex_reading_cat : D12 → Option (Option D13)) (sf_regex_reading_rep : D12 → Option (Option D13)) (sf_regex_reading_atom : D12 → Option (Option D13)) (sf_regex_reading_alt_i1 : D12 → Option (Option D13)) (k : Nat) : T2 := t2 sf_regex_reading_cat sf_regex_reading_rep sf_regex_reading_atom sf_regex_reading_alt_i1
theorem o2 (sf_regex_reading_cat : D12 → Option (Option D13)) (sf_regex_reading_rep : D12 → Option (Option D13)) (sf_regex_reading_atom : D12 → Option (Option D13)) (sf_regex_reading_alt_i1 : D12 → Option (Option D13)) (k : Nat) : l2 sf_regex_reading_cat sf_regex_reading_rep sf_regex_reading_atom sf_regex_reading_alt_i1 true k = p2 sf_regex_reading_cat sf_regex_reading_rep sf_regex_reading_atom sf_regex_reading_alt_i1 k := lfo (b := l2 sf_regex_reading_cat sf_regex_reading_rep sf_regex_reading_atom sf_regex_reading_alt_i1 false k) (fx3 fun _ _ _ => lcR) (by kernel_rfl) rfl
def t1 (sf_regex_reading_cat : D12 → Option (Option D13)) (sf_regex_reading_rep : D12 → Option (Option D13)) (sf_regex_reading_atom : D12 → Option (Option D13)) (sf_regex_reading_alt_i1 : D12 → Option (Option D13)) (f1 : T1) (f2 : T2) : T1 := fun x3 m2 m1000000 => (bindQ (s_regex_reading_is (m1000000, ((124 : Int), ()))) (some none) fun r2 => (iteB r2.1 (bindQ (sf_regex_reading_cat (r2.2.1, ())) (some none) fun r3 => (mustR (room x3 ([(pk0 r3.1)] : List (N0))) (f1 (x3 ++ ([(pk0 r3.1)] : List (N0))) m2 r3.2.1))) (f2 x3 m2 r2.2.1)))
def p1 (sf_regex_reading_cat : D12 → Option (Option D13)) (sf_regex_reading_rep : D12 → Option (Option D13)) (sf_regex_reading_atom : D12 → Option (Option D13)) (sf_regex_reading_alt_i1 : D12 → Option (Option D13)) (k : Nat) : Nat → T1 := iter fun f => t1 sf_regex_reading_cat sf_regex_reading_rep sf_regex_reading_atom sf_regex_reading_alt_i1 f (p2 sf_regex_reading_cat sf_regex_reading_rep sf_regex_reading_atom sf_regex_reading_alt_i1 k)
theorem o1 (sf_regex_reading_cat : D12 → Option (Option D13)) (sf_regex_reading_rep : D12 → Option (Option D13)) (sf_regex_reading_atom : D12 → Option (Option D13)) (sf_regex_reading_alt_i1 : D12 → Option (Option D13)) (k : Nat) : ∀ n, l1 sf_regex_reading_cat sf_regex_reading_rep sf_regex_reading_atom sf_regex_reading_alt_i1 true k n = p1 sf_regex_reading_cat sf_regex_reading_rep sf_regex_reading_atom sf_regex_reading_alt_i1 k n := oL (u := l1 sf_regex_reading_cat sf_regex_reading_rep sf_regex_reading_atom sf_regex_reading_alt_i1 false k) (by kernel_rfl) (fun n1 => (fx3 fun _ _ _ => lcL)) (fun n1 => by kernel_rfl) (fun n1 f h => (congr (congrArg (t1 sf_regex_reading_cat sf_regex_reading_rep sf_regex_reading_atom sf_regex_reading_alt_i1) h) (o2 sf_regex_reading_cat sf_regex_reading_rep sf_regex_reading_atom sf_regex_reading_alt_i1 k)))
def t0 (sf_regex_reading_cat : D12 → Option (Option D13)) (sf_regex_reading_rep : D12 → Option (Option D13)) (sf_regex_reading_atom : D12 → Option (Option D13)) (sf_regex_reading_alt_i1 : D12 → Option (Option D13)) (f1 : T1) : T0 := fun a => (bindQ (sf_regex_reading_cat (a.1, ())) (some none) fun r1 => (f1 ([(pk0 r1.1)] : List (N0)) ((0 : Int), ((List.replicate 4 (0 : Int)), ([] : List (N0)))) r1.2.1))
def p0 (sf_regex_reading_cat : D12 → Option (Option D13)) (sf_regex_reading_rep : D12 → Option (Option D13)) (sf_regex_reading_atom : D12 → Option (Option D13)) (sf_regex_reading_alt_i1 : D12 → Option (Option D13)) (k : Nat) : T0 := t0 sf_regex_reading_cat sf_regex_reading_rep sf_regex_reading_atom sf_regex_reading_alt_i1 (p1 sf_regex_reading_cat sf_regex_reading_rep sf_regex_reading_atom sf_regex_reading_alt_i1 k k)
theorem o0 (sf_regex_reading_cat : D12 → Option (Option D13)) (sf_regex_reading_rep : D12 → Option (Option D13)) (sf_regex_reading_atom : D12 → Option (Option D13)) (sf_regex_reading_alt_i1 : D12 → Option (Option D13)) (k : Nat) : u0 sf_regex_reading_cat sf_regex_reading_rep sf_regex_reading_atom sf_regex_reading_alt_i1 k = p0 sf_regex_reading_cat sf_regex_reading_rep sf_regex_reading_atom sf_regex_reading_alt_i1 k := Eq.trans (by kernel_rfl) (congrArg (t0 sf_regex_reading_cat sf_regex_reading_rep sf_regex_reading_atom sf_regex_reading_alt_i1) (o1 sf_regex_reading_cat sf_regex_reading_rep sf_regex_reading_atom sf_regex_reading_alt_i1 k k))
end regex_reading_alt_i1
mutual
def r_regex_reading_cat : Nat → D12 → Option (Option D13)
  | 0, _ => none
  | n + 1, a => regex_reading_cat.p0 (r_regex_reading_cat n) (r_regex_reading_rep n) (r_regex_reading_atom n) (r_regex_reading_alt_i1 n) fuel a
def r_regex_reading_rep : Nat → D12 → Option (Option D13)
  | 0, _ => none
  | n + 1, a => regex_reading_rep.p0 (r_regex_reading_cat n) (r_regex_reading_rep n) (r_regex_reading_atom n) (r_regex_reading_alt_i1 n) fuel a
def r_regex_reading_atom : Nat → D12 → Option (Option D13)
  | 0, _ => none
  | n + 1, a => regex_reading_atom.p0 (r_regex_reading_cat n) (r_regex_reading_rep n) (r_regex_reading_atom n) (r_regex_reading_alt_i1 n) fuel a
def r_regex_reading_alt_i1 : Nat → D12 → Option (Option D13)
  | 0, _ => none
  | n + 1, a => regex_reading_alt_i1.p0 (r_regex_reading_cat n) (r_regex_reading_rep n) (r_regex_reading_atom n) (r_regex_reading_alt_i1 n) fuel a
end
theorem okr_regex_reading_cat : ∀ n, FnOk Try.prog (Fr_regex_reading_cat (r_regex_reading_cat n)) 25 ∧ FnOk Try.prog (Fr_regex_reading_rep (r_regex_reading_rep n)) 45 ∧ FnOk Try.prog (Fr_regex_reading_atom (r_regex_reading_atom n)) 51 ∧ FnOk Try.prog (Fr_regex_reading_alt_i1 (r_regex_reading_alt_i1 n)) 16
  | 0 => ⟨fn_noneP rfl (fun _ => rfl), fn_noneP rfl (fun _ => rfl), fn_noneP rfl (fun _ => rfl), fn_noneP rfl (fun _ => rfl)⟩
  | n + 1 => ⟨fn_ofP (F := Fr_regex_reading_cat (r_regex_reading_cat (n + 1))) (hn := regex_reading_cat.h) (E := regex_reading_cat.E (r_regex_reading_cat n) (r_regex_reading_rep n) (r_regex_reading_atom n) (r_regex_reading_alt_i1 n)) cxOk (tysT _ _ _) (fs_cons ok_regex_reading_cap (fs_cons ok_regex_group (fs_cons ok_regex_reading_next (fs_cons (okr_regex_reading_cat n).2.1 fs_nil)))) follows Try.func25 (by kernel_rfl) rfl (fun a r h => ⟨fuel, Eq.trans (congrFun (regex_reading_cat.o0 (r_regex_reading_cat n) (r_regex_reading_rep n) (r_regex_reading_atom n) (r_regex_reading_alt_i1 n) fuel) a) h⟩), fn_ofP (F := Fr_regex_reading_rep (r_regex_reading_rep (n + 1))) (hn := regex_reading_rep.h) (E := regex_reading_rep.E (r_regex_reading_cat n) (r_regex_reading_rep n) (r_regex_reading_atom n) (r_regex_reading_alt_i1 n)) cxOk (tysT _ _ _) (fs_cons ok_regex_reading_is (fs_cons ok_regex_reading_cap (fs_cons ok_regex_group (fs_cons (okr_regex_reading_cat n).2.2.1 fs_nil)))) follows Try.func45 (by kernel_rfl) rfl (fun a r h => ⟨fuel, Eq.trans (congrFun (regex_reading_rep.o0 (r_regex_reading_cat n) (r_regex_reading_rep n) (r_regex_reading_atom n) (r_regex_reading_alt_i1 n) fuel) a) h⟩), fn_ofP (F := Fr_regex_reading_atom (r_regex_reading_atom (n + 1))) (hn := regex_reading_atom.h) (E := regex_reading_atom.E (r_regex_reading_cat n) (r_regex_reading_rep n) (r_regex_reading_atom n) (r_regex_reading_alt_i1 n)) cxOk (tysT _ _ _) (fs_cons (okr_regex_reading_cat n).2.2.2 (fs_cons ok_need (fs_cons ok_regex_reading_is (fs_cons ok_regex_reading_take (fs_cons ok_regex_reading_class (fs_cons ok_regex_anyBut (fs_cons ok_bytesets_Of (fs_cons ok_regex_sign (fs_cons ok_regex_reading_escaped (fs_cons ok_strings_IndexByte fs_nil)))))))))) follows Try.func51 (by kernel_rfl) rfl (fun a r h => ⟨fuel, Eq.trans (congrFun (regex_reading_atom.o0 (r_regex_reading_cat n) (r_regex_reading_rep n) (r_regex_reading_atom n) (r_regex_reading_alt_i1 n) fuel) a) h⟩), fn_ofP (F := Fr_regex_reading_alt_i1 (r_regex_reading_alt_i1 (n + 1))) (hn := regex_reading_alt_i1.h) (E := regex_reading_alt_i1.E (r_regex_reading_cat n) (r_regex_reading_rep n) (r_regex_reading_atom n) (r_regex_reading_alt_i1 n)) cxOk (tysT _ _ _) (fs_cons (okr_regex_reading_cat n).1 (fs_cons ok_regex_reading_is (fs_cons ok_regex_reading_cap (fs_cons ok_regex_group fs_nil)))) follows Try.func16 (by kernel_rfl) rfl (fun a r h => ⟨fuel, Eq.trans (congrFun (regex_reading_alt_i1.o0 (r_regex_reading_cat n) (r_regex_reading_rep n) (r_regex_reading_atom n) (r_regex_reading_alt_i1 n) fuel) a) h⟩)⟩
def s_regex_reading_cat (a : D12) : Option (Option D13) := r_regex_reading_cat fuel a
def F_regex_reading_cat : FSpec cx.toNm := Fr_regex_reading_cat s_regex_reading_cat
theorem ok_regex_reading_cat : FnOk Try.prog F_regex_reading_cat 25 := (okr_regex_reading_cat fuel).1
namespace regex_reading_alt
def E : Env cx := { tys := tys, fs := fsOf [(25, F_regex_reading_cat), (26, F_regex_reading_is), (27, F_regex_reading_cap), (28, F_regex_group)], pt := 42 }
abbrev R := Option (Option (D13))
def h : Hint := { vs := [0, 2, 3], ret := ([0, 2], [2, 1000000]), nil := [(3, (.own .ro)), (6, (.own .ro))], cuts := [(2, ([0, 2, 3], [2, 1000000]), ([0, 2, 3], [2, 1000000])), (4, ([0, 2, 3], [2, 1000000]), ([0, 2, 3], [2, 1000000]))] }
def W : Pr cx (Option (D13)) := ⟨E, h, bodyC Try.f16, finP (S := cx) E Try.f16.results.toList t7 .ro [1000000] [(t1, .ro)]⟩
abbrev T2 := D0 → D2 → D4 → R
abbrev T1 := D0 → D2 → D4 → R
abbrev T0 := D12 → R
def u0 (k : Nat) : T0 := fun a => runOfP (S := cx) E h k Try.f16 [.io t1 .ro] t7 .ro a
abbrev l2 (c : Bool) (k : Nat) : T2 := fun x3 m2 m1000000 => lfR c W k [1, 1, 1] [] ⟨[(0, vA 1000000), (2, vA 2), (3, .v t4 (.own .ro) x3)], [], [(2, ⟨t7, .ro, m2⟩), (1000000, ⟨t1, .ro, m1000000⟩)]⟩
abbrev l1 (c : Bool) (k n1 : Nat) : T1 := fun x3 m2 m1000000 => lfL c W k [1, 1, 0, 0] [] n1 ⟨[(0, vA 1000000), (2, vA 2), (3, .v t4 (.own .ro) x3)], [], [(2, ⟨t7, .ro, m2⟩), (1000000, ⟨t1, .ro, m1000000⟩)]⟩
def t2 : T2 := fun x3 m2 m1000000 => (bindR (s_regex_group ((3 : Int), (x3, ()))) fun r4 => (bindR (s_regex_reading_cap (m1000000, (r4.1, ()))) fun r5 => (some (some (r5.1, (r5.2.1, ()))))))
def p2 (k : Nat) : T2 := t2
theorem o2 (k : Nat) : l2 true k = p2 k := lfo (b := l2 false k) (fx3 fun _ _ _ => lcR) (by kernel_rfl) rfl
def t1 (f1 : T1) (f2 : T2) : T1 := fun x3 m2 m1000000 => (bindQ (s_regex_reading_is (m1000000, ((124 : Int), ()))) (some none) fun r2 => (iteB r2.1 (bindQ (s_regex_reading_cat (r2.2.1, ())) (some none) fun r3 => (mustR (room x3 ([(pk0 r3.1)] : List (N0))) (f1 (x3 ++ ([(pk0 r3.1)] : List (N0))) m2 r3.2.1))) (f2 x3 m2 r2.2.1)))
def p1 (k : Nat) : Nat → T1 := iter fun f => t1 f (p2 k)
theorem o1 (k : Nat) : ∀ n, l1 true k n = p1 k n := oL (u := l1 false k) (by kernel_rfl) (fun n1 => (fx3 fun _ _ _ => lcL)) (fun n1 => by kernel_rfl) (fun n1 f h => (congr (congrArg t1 h) (o2 k)))
def t0 (f1 : T1) : T0 := fun a => (bindQ (s_regex_reading_cat (a.1, ())) (some none) fun r1 => (f1 ([(pk0 r1.1)] : List (N0)) ((0 : Int), ((List.replicate 4 (0 : Int)), ([] : List (N0)))) r1.2.1))
def p0 (k : Nat) : T0 := t0 (p1 k k)
theorem o0 (k : Nat) : u0 k = p0 k := Eq.trans (by kernel_rfl) (congrArg t0 (o1 k k))
end regex_reading_alt
def s_regex_reading_alt (a : D12) : Option (Option (D13)) := regex_reading_alt.p0 fuel a
def F_regex_reading_alt : FSpec cx.toNm := { ps := [.io t1 .ro], nres := 1, rt := t7, rm := .ro, f := fun _ => none, p := some (42, s_regex_reading_alt) }
theorem ok_regex_reading_alt : FnOk Try.prog F_regex_reading_alt 16 := fn_ofP (F := F_regex_reading_alt) (hn := regex_reading_alt.h) (E := regex_reading_alt.E) cxOk (tysT _ _ _) (fs_cons ok_regex_reading_cat (fs_cons ok_regex_reading_is (fs_cons ok_regex_reading_cap (fs_cons ok_regex_group fs_nil)))) follows Try.func16 (by kernel_rfl) rfl (fun a r h => ⟨fuel, (congrFun (regex_reading_alt.o0 fuel) a).trans ((by kernel_rfl : s_regex_reading_alt a = s_regex_reading_alt a).trans h)⟩)
namespace runes_reader_next
def E : Env cx := { tys := tys, fs := fsOf [(43, F_runes_First)] }
abbrev R := Option (D25)
def h : Hint := { vs := [0, 2, 4], ret := ([0, 2], [1000000]) }
def W : Pr cx (D25) := ⟨E, h, bodyC Try.f24, fin (S := cx) E Try.f24.results.toList .bool .ro [1000000] [(t8, .ro)]⟩
abbrev T0 := D15 → R
def u0 (k : Nat) : T0 := fun a => runOf (S := cx) E h k Try.f24 [.io t8 .ro] .bool .ro a
def t0 : T0 := fun a => (bindR (s_runes_First (a.1, ())) fun r1 => (mustR (decide (0 ≤ r1.1.2)) (mustR (decide (r1.1.2 ≤ (((List.length a.1) : Nat) : Int))) (some ((decide ((0 : Int) < r1.1.2)), ((List.drop (Int.toNat r1.1.2) (List.take (List.length a.1) a.1)), ()))))))
def p0 (k : Nat) : T0 := t0
theorem o0 (k : Nat) : u0 k = p0 k := Eq.trans (by kernel_rfl) rfl
end runes_reader_next
def s_runes_reader_next (a : D15) : Option D25 := runes_reader_next.p0 fuel a
def F_runes_reader_next : FSpec cx.toNm := { ps := [.io t8 .ro], nres := 1, rt := .bool, rm := .ro, f := s_runes_reader_next }
theorem ok_runes_reader_next : FnOk Try.prog F_runes_reader_next 24 := fn_of (F := F_runes_reader_next) (hn := runes_reader_next.h) (E := runes_reader_next.E) cxOk (tysT _ _ _) (fs_cons ok_runes_First fs_nil) follows Try.func24 (by kernel_rfl) (fun a r h => ⟨fuel, (congrFun (runes_reader_next.o0 fuel) a).trans ((by kernel_rfl : s_runes_reader_next a = F_runes_reader_next.f a).trans h)⟩)
namespace runes_Whole
def E : Env cx := { tys := tys, fs := fsOf [(24, F_runes_reader_next)] }
abbrev R := Option (D14)
def h : Hint := { vs := [0, 2, 3], ret := ([2], [6]), cuts := [(2, ([3], [6]), ([3], [6])), (5, ([], []), ([], []))] }
def W : Pr cx (D14) := ⟨E, h, bodyC Try.f14, fin (S := cx) E Try.f14.results.toList .bool .ro [] []⟩
abbrev T2 := R
abbrev T1 := (List UInt8) → R
abbrev T0 := D15 → R
def u0 (k : Nat) : T0 := fun a => runOf (S := cx) E h k Try.f14 [.val .str] .bool .ro a
abbrev l2 (c : Bool) (k : Nat) : T2 := lfR c W k [1, 1, 1] [] ⟨[], [], []⟩
abbrev l1 (c : Bool) (k n1 : Nat) : T1 := fun m6 => lfL c W k [1, 1, 0, 0] [] n1 ⟨[(3, vA 6)], [], [(6, ⟨t8, .ro, m6⟩)]⟩
def t2 : T2 := (some (true, ()))
def p2 (k : Nat) : T2 := t2
theorem o2 (k : Nat) : l2 true k = p2 k := lfo (b := l2 false k) lcR (by kernel_rfl) rfl
def t1 (f1 : T1) (f2 : T2) : T1 := fun m6 => (iteB (!(decide (m6 = ([] : List UInt8)))) (bindR (s_runes_reader_next (m6, ())) fun r1 => (iteB (notB r1.1) (some (false, ())) (f1 r1.2.1))) f2)
def p1 (k : Nat) : Nat → T1 := iter fun f => t1 f (p2 k)
theorem o1 (k : Nat) : ∀ n, l1 true k n = p1 k n := oL (u := l1 false k) (by kernel_rfl) (fun n1 => (fx1 fun _ => lcL)) (fun n1 => by kernel_rfl) (fun n1 f h => (congr (congrArg t1 h) (o2 k)))
def t0 (f1 : T1) : T0 := fun a => (f1 a.1)
def p0 (k : Nat) : T0 := t0 (p1 k k)
theorem o0 (k : Nat) : u0 k = p0 k := Eq.trans (by kernel_rfl) (congrArg t0 (o1 k k))
end runes_Whole
def s_runes_Whole (a : D15) : Option D14 := runes_Whole.p0 fuel a
def F_runes_Whole : FSpec cx.toNm := { ps := [.val .str], nres := 1, rt := .bool, rm := .ro, f := s_runes_Whole }
theorem ok_runes_Whole : FnOk Try.prog F_runes_Whole 14 := fn_of (F := F_runes_Whole) (hn := runes_Whole.h) (E := runes_Whole.E) cxOk (tysT _ _ _) (fs_cons ok_runes_reader_next fs_nil) follows Try.func14 (by kernel_rfl) (fun a r h => ⟨fuel, (congrFun (runes_Whole.o0 fuel) a).trans ((by kernel_rfl : s_runes_Whole a = F_runes_Whole.f a).trans h)⟩)
end
end Go.Proofs.Ytndffgpoljojaaa.Vm.Rx
namespace Go.Proofs.Ytndffgpoljojaaa.Vm.Rx
open Go Go.Proofs.Ytndffgpoljojaaa.Vm Go.Proofs Go.RowKit
set_option linter.unusedVariables false
set_option maxRecDepth 100000
noncomputable section
abbrev tRx : Ty := .agg (.pair (.int .u8) (.pair (.agg (.arr 4 (.int .u64))) (.slice 28 (.named 0))))
abbrev DRx : Type := Int × (List Int × List N0)
def zRx : DRx := (0, (List.replicate 4 0, []))
abbrev DPar : Type := (DRx × Int) × Unit
noncomputable def s_Parse (a : List UInt8 × Unit) : Option DPar :=
  iteB (decide ((100 : Int) < ((List.length a.1 : Nat) : Int))) (some ((zRx, 21), ())) (bindR (s_runes_Whole (a.1, ())) fun q => iteB (notB q.1) (some ((zRx, 20), ()))
    (bindQ (s_regex_reading_alt ((a.1, false), ())) (some ((zRx, 20), ())) fun r => bindQ (s_need (decide (r.2.1.1 = []), ())) (some ((zRx, 20), ())) fun _ => iteB r.2.1.2 (some ((zRx, 21), ())) (some ((r.1, 0), ()))))
def F_Parse : FSpec cx.toNm := { ps := [.val .str], nres := 2, rt := .pair tRx (.int .i64), rm := .ro, f := s_Parse }
namespace Parse
def E : Env cx := { tys := tys, fs := fsOf [(14, F_runes_Whole), (16, F_regex_reading_alt), (17, F_need)], pt := 42 }
def h : Hint := { vs := [0, 2, 3, 4, 5, 6, 11], ret := ([2, 3], [2, 3]) }
def P0 : Code := subC (bodyC Try.f6) [0]
def P1 : Code := subC (bodyC Try.f6) [1, 0]
def P2 : Code := subC (bodyC Try.f6) [1, 1, 0]
def P3 : Code := subC (bodyC Try.f6) [1, 1, 1]
theorem body_is : Try.f6.body = some (.seq P0 (.seq P1 (.seq P2 P3))) := by kernel_rfl
noncomputable def kN : Exit → ST cx → Option (Exit × ST cx) := fun ex st => match ex with
  | .normal => some (.normal, st.norm ([0, 2, 3], [2, 3]))
  | .ret => some (.ret, st.norm ([2, 3], [2, 3]))
  | .panic _ => some (.panic [], st.norm ([2, 3], [2, 3]))
  | _ => none
noncomputable def st0 (s : List UInt8) : ST cx := ⟨[(0, vS s), (2, vA 2), (3, vA 3)], [], [(2, ⟨tRx, .ro, zRx⟩), (3, ⟨.int .i64, .ro, (0 : Int)⟩)]⟩
noncomputable def stE (n : Int) (x : DRx) : ST cx := ⟨[(2, vA 2), (3, vA 3)], [], [(2, ⟨tRx, .ro, x⟩), (3, ⟨.int .i64, .ro, n⟩)]⟩
theorem r0 (k : Nat) (s : List UInt8) : run E h k P0 (stIn [.val .str] (s, ())) kN = some (.normal, st0 s) := by kernel_rfl
theorem r1 (k : Nat) (s : List UInt8) : run E h k P1 (st0 s) kN = iteB (decide ((100 : Int) < ((List.length s : Nat) : Int))) (some (.ret, stE 21 zRx)) (bindR (s_runes_Whole (s, ())) fun q => iteB (notB q.1) (some (.ret, stE 20 zRx)) (some (.normal, st0 s))) := by kernel_rfl
theorem r3 (k : Nat) (s : List UInt8) : run E h k P3 (st0 s) kN = bindQ (s_regex_reading_alt ((s, false), ())) (some (.panic [], stE 0 zRx)) (fun r => bindQ (s_need (decide (r.2.1.1 = []), ())) (some (.panic [], stE 0 zRx)) fun _ => iteB r.2.1.2 (some (.ret, stE 21 zRx)) (some (.ret, stE 0 r.1))) := by kernel_rfl
theorem code0 : codeOk E h 34 P0 = true := by kernel_rfl
theorem code1 : codeOk E h 34 P1 = true := by kernel_rfl
theorem code3 : codeOk E h 34 P3 = true := by kernel_rfl
theorem fix3 : (fixC P3 2 && fixC P3 3) = true := by kernel_rfl
theorem ntm : Try.f6.ntmps = 34 := by kernel_rfl
def clo (a : Act) : Value := .func (.func 15) #[] #[a.tmps.getD 2 undef, a.tmps.getD 3 undef]
theorem P2_is : P2 = .region 5 #[{ dst := some 16, op := .makeFunc (.func 15) #[] #[.tmp 2, .tmp 3], type := 1, pos := "parse.go:206", after := #[], guard := none },
    { dst := none, op := .defer { callee := .value (.tmp 16), args := #[], argTypes := #[] }, type := 0, pos := "parse.go:206", after := #[{ on := 0, ground := .data }], guard := none }] false := by kernel_rfl
theorem p2 {Q : Exit → Act → World → Prop} (a : Act) (w : World) (hd : a.defers = []) (hsz : a.tmps.size = 34)
    (hQ : Q .normal { tmps := (a.put (some 16) (clo a)).tmps, defers := [{ target := .fn (.func 15) #[a.tmps.getD 2 undef, a.tmps.getD 3 undef], args := #[] }] } w) : P2.wp Try.prog Q a w := by
  rw [P2_is]
  apply wp_region
  obtain ⟨tmps, defers⟩ := a
  simp only at hd hsz
  subst hd
  have hmf : ∀ (fn : Fn) (first cap : Array Value) (w : World), (Instr.makeFunc fn first cap).run Try.prog w = .ok (.func fn first cap) w := fun _ _ _ _ => rfl
  simp only [Act.put, clo] at hQ
  have e2 : tmps.getD 2 undef = tmps[2] := by simp [Array.getD, hsz]
  have e3 : tmps.getD 3 undef = tmps[3] := by simp [Array.getD, hsz]
  rw [e2, e3] at hQ
  simp [wpOps, go_sem, hsz, Oper.wp, Oper.upon, Region.wanted]
  exact .inl (.inl hQ)
theorem idle (v2 v3 : Value) (w : World) : CallsD Try.prog 15 #[v2, v3] .returning w fun e u' w' => e = .returned (.tuple #[]) ∧ u' = .returning ∧ w' = w := by
  refine callsD_of_wpS Try.func15 rfl fun c₀ cs hu => ?_
  apply wpS_seq
  apply wpS_region
  simp [wpOpsS, go_sem, recoverD, hu, Try.ntmps15, Exit.thenS]
  apply wpS_seq
  apply wpS_region
  simp [wpOpsS, go_sem, Exit.thenS]
  refine wpS_cond (t := false) (by simp [Act.eval, Array.replicate]) ?_
  simp only [Bool.false_eq_true, if_false]
  refine wpS_of_wp (wp_skip ?_)
  cases c₀
  simp_all [bodyPostS, results, Try.results15]
theorem caught (b2 b3 : Nat) (c2 c3 : Array Value) (e2 e3 : TypeId) (w : World) (h2 : w.heap[b2]? = some (.cells c2 e2 (0, 0))) (hs2 : c2.size = 6) (h3 : w.heap[b3]? = some (.cells c3 e3 (0, 0))) (hs3 : c3.size = 1) (hne : b2 ≠ b3) :
    CallsD Try.prog 15 #[.pointer (some ⟨b2, 0, none⟩), .pointer (some ⟨b3, 0, none⟩)] (.panicking [{ v := .iface 42 (.agg #[]), recovered := false }]) w fun e u' w' =>
      e = .returned (.tuple #[]) ∧ u' = .panicking [{ v := .iface 42 (.agg #[]), recovered := true }] ∧ w'.os = w.os ∧ w'.tape = w.tape ∧ w'.output = w.output ∧ w.heap.size ≤ w'.heap.size ∧
        (∀ b, b < w.heap.size → b ≠ b2 → b ≠ b3 → w'.heap[b]? = w.heap[b]?) ∧ w'.heap[b2]? = some (.cells (zc tRx).toArray e2 (0, 0)) ∧ w'.heap[b3]? = some (.cells #[.int .i64 20] e3 (0, 0)) := by
  refine callsD_of_wpS Try.func15 rfl fun c₀ cs hu => ?_
  apply wpS_seq
  apply wpS_region
  simp [wpOpsS, go_sem, recoverD, hu, Try.ntmps15, Exit.thenS]
  apply wpS_seq
  apply wpS_region
  simp [wpOpsS, go_sem, Exit.thenS]
  refine wpS_cond (t := true) (by simp [Act.eval, Array.replicate]) ?_
  simp only [if_true]
  refine wpS_of_wp ?_
  refine wp_seq (wp_seq ?_)
  apply wp_region
  have hta : (Instr.typeAssert (.iface 42 (.agg #[])) 20 42 true).run Try.prog w = .ok (.tuple #[.agg #[], .bool true]) w := by
    simp [Instr.typeAssert, run_underlying Try.underlying42]
  simp [wpOps, go_sem, Oper.wp, Oper.upon, Region.wanted, hta, storeCells]
  repeat refine Or.inl ?_
  refine wp_seq ?_
  apply wp_region
  simp [wpOps, go_sem, Oper.wp, Oper.upon, Region.wanted]
  repeat refine Or.inl ?_
  refine wp_cond_false (by simp [Act.eval, Array.replicate]) (wp_skip ?_)
  simp only [Exit.then]
  generalize hw1 : w.alloc (.cells #[] 42) = w1
  have T28 := tysT [] false 0 28 tRx (by kernel_rfl)
  have T29 := tysT [] false 0 29 (.int .i64) (by kernel_rfl)
  obtain ⟨z, hz, hVz⟩ := run_zeroValue T28 w1
  have hVz : z = .agg (zc tRx).toArray := hVz
  subst hVz
  have s28 := fun w => T28.size w
  have s29 := fun w => T29.size w
  have hb2 : b2 < w.heap.size := (Array.getElem?_eq_some_iff.1 h2).1
  have hb3 : b3 < w.heap.size := (Array.getElem?_eq_some_iff.1 h3).1
  have hbel : Below w.heap.size w w1 := by rw [← hw1]; exact (Below.refl _ w).alloc (Nat.le_refl _) _
  have h2' := (hbel.block b2 hb2).trans h2
  have h3' := (hbel.block b3 hb3).trans h3
  have hl : (zc tRx).length = cx.size tRx := by kernel_rfl
  have hl6 : (zc tRx).length = 6 := by kernel_rfl
  have hz1 : cx.size (.int .i64) = 1 := rfl
  have hst2 := run_storeCells_at (P := Try.prog) b2 0 e2 (zc tRx) 0 c2 w1 h2' (by rw [hl6, hs2]; decide) (by decide)
  rw [Nat.add_zero, setRow_putCells h2'] at hst2
  have g2 := putCells_at (off := 0) (new := zc tRx) h2'
  have hsp : spl c2.toList 0 (zc tRx) = zc tRx := spl_all (by rw [Array.length_toList, hs2, hl6])
  rw [hsp] at g2
  have g3 : (putCells w1 b2 0 (zc tRx)).heap[b3]? = some (.cells c3 e3 (0, 0)) := (putCells_ne (fun e => hne e.symm)).trans h3'
  have gs : (putCells w1 b2 0 (zc tRx)).heap.size = w1.heap.size := putCells_size
  have go : ∀ b, b < w.heap.size → b ≠ b2 → (putCells w1 b2 0 (zc tRx)).heap[b]? = w.heap[b]? := fun b hb h => (putCells_ne h).trans (hbel.block b hb)
  have gw : (putCells w1 b2 0 (zc tRx)).os = w1.os ∧ (putCells w1 b2 0 (zc tRx)).tape = w1.tape ∧ (putCells w1 b2 0 (zc tRx)).output = w1.output := ⟨rfl, rfl, rfl⟩
  generalize putCells w1 b2 0 (zc tRx) = w2 at *
  obtain ⟨v3, hv3⟩ : ∃ v3, c3 = #[v3] := by
    obtain ⟨l3⟩ := c3
    match l3, hs3 with
    | [v], _ => exact ⟨v, rfl⟩
  subst hv3
  have hc3 : w2.cell? ⟨b3, 0, none⟩ = some v3 := by simp [World.cell?, g3]
  have hf3 : w2.frozen? ⟨b3, 0, none⟩ = false := by simp [World.frozen?, g3]
  apply wp_region
  simp [wpOps, go_sem, Oper.wp, Oper.upon, Region.wanted, hz, s28, s29, Instr.build, hl, hz1, hst2, hc3, hf3]
  repeat refine Or.inl ?_
  have hb3' : b3 < w2.heap.size := by rw [gs]; exact Nat.lt_of_lt_of_le hb3 hbel.size
  refine ⟨rfl, _, rfl, .tuple #[], by simp [results, Try.results15], rfl, rfl, ?_⟩
  have hset : ∀ b, (w2.setCell ⟨b3, 0, none⟩ (.int .i64 20)).heap[b]? = if b = b3 then some (.cells #[.int .i64 20] e3 (0, 0)) else w2.heap[b]? := fun b => by
    by_cases hb : b = b3
    · subst hb
      simp [World.setCell, Array.getElem?_modify, g3]
    · rw [if_neg hb]
      simp [World.setCell, Array.getElem?_modify, Ne.symm hb]
  refine ⟨?_, ?_, ?_, ?_, fun b hb hx hy => ?_, ?_, ?_⟩
  · simp [World.setCell, gw.1, hbel.os]
  · simp [World.setCell, gw.2.1, hbel.tape]
  · simp [World.setCell, gw.2.2, hbel.output]
  · have : (w2.setCell ⟨b3, 0, none⟩ (.int .i64 20)).heap.size = w2.heap.size := by simp [World.setCell]
    rw [this, gs]; exact hbel.size
  · rw [hset, if_neg hy]; exact go b hb hx
  · rw [hset, if_neg hne]; exact g2
  · rw [hset, if_pos rfl]
theorem resE (n : Int) (y : DRx) : (resAll E Try.f6.results.toList F_Parse.rt F_Parse.rm (stE n y)).map (·.1) = some (y, n) := by kernel_rfl
theorem put_is (s : List UInt8) : ((st0 s).put h 16 .dead).norm ([0, 2, 3], [2, 3]) = st0 s := by kernel_rfl
theorem norm_is (s : List UInt8) : (st0 s).norm ([2, 3], [2, 3]) = stE 0 zRx := by kernel_rfl
section
variable {P : Program} {F : Env cx} {w0 : World} {Z : Nat → Prop} {Mio : Nat → Prop} {pin : Nat → Option Nat} {hz : ∀ b, Z b → b < w0.heap.size ∧ ¬ Mio b} {hg : GlobR cx w0 Z} {gd gd' ad ad' : List Deferred} {st : ST cx} {own : Nat → Option Own} {tmps : Array Value} {w : World}
theorem caps_defs : ∀ (cs : List (Cap cx.toNm)) (vs : List Value), CapsR ⟨P, F, w0, Z, Mio, pin, hz, hg, gd⟩ st own ⟨tmps, ad⟩ w cs vs → CapsR ⟨P, F, w0, Z, Mio, pin, hz, hg, gd'⟩ st own ⟨tmps, ad'⟩ w cs vs
  | [], [], _ => trivial
  | [], _ :: _, h => h.elim
  | _ :: _, [], h => h.elim
  | .d _ _ :: cs, _ :: vs, h => ⟨h.1, caps_defs cs vs h.2⟩
  | .m _ :: cs, _ :: vs, h => ⟨h.1, caps_defs cs vs h.2⟩
theorem tr_defs (i : Nat) (A : AV cx) (v : Value) (h : TR ⟨P, F, w0, Z, Mio, pin, hz, hg, gd⟩ st own ⟨tmps, ad⟩ w i A v) : TR ⟨P, F, w0, Z, Mio, pin, hz, hg, gd'⟩ st own ⟨tmps, ad'⟩ w i A v := by
  have hp : ∀ r p l cs c, Place st own ⟨tmps, ad⟩ w r p l cs c → Place st own ⟨tmps, ad'⟩ w r p l cs c := fun r p l cs c h => by cases r <;> exact h
  cases A with
  | fn f cs => obtain ⟨vs, h1, h2⟩ := h; exact ⟨vs, h1, caps_defs cs vs h2⟩
  | ref r p => obtain ⟨l', cs', c, h1, h2⟩ := h; exact ⟨l', cs', c, hp _ _ _ _ _ h1, h2⟩
  | addr r p => obtain ⟨l', cs', c, c', h1, h2⟩ := h; exact ⟨l', cs', c, c', hp _ _ _ _ _ h1, h2⟩
  | _ => exact h
end
theorem invoke_clo (v2 v3 : Value) (w : World) : (invoke (.fn (.func 15) #[v2, v3]) #[]).run Try.prog w = .ok (.enter 15 #[v2, v3]) w := by
  simp only [invoke, callFunc, Sem.run_bind, run_program, Result.andThen_ok, Try.func15]
  rfl
theorem ends (e : Exit) (st : ST cx) {e' : Exit} {st' : ST cx} (hk : kN e st = some (e', st')) : e' = (match e with | .panic _ => .panic [] | e => e) ∧ (e = .normal ∨ e = .ret ∨ ∃ c, e = .panic c) ∧ ∃ c, st.norm c = st' := by
  cases e with
  | normal => cases hk; exact ⟨rfl, .inl rfl, _, rfl⟩
  | ret => cases hk; exact ⟨rfl, .inr (.inl rfl), _, rfl⟩
  | panic c => cases hk; exact ⟨rfl, .inr (.inr ⟨c, rfl⟩), _, rfl⟩
  | _ => cases hk
theorem norm_rel {g : Gl cx} {own : Nat → Option Own} {a : Act} {w : World} {e : Exit} {st : ST cx} {e' : Exit} {st' : ST cx} (hR : Rel g own st a w) (hk : kN e st = some (e', st')) : Rel g own st' a w := by
  obtain ⟨_, _, c, rfl⟩ := ends e st hk
  exact hR.norm c
theorem box_at {g : Gl cx} {own : Nat → Option Own} {a : Act} {w : World} {n : Int} {y : DRx} (hR : Rel g own (stE n y) a w) :
    (∃ b e c, a.tmps.getD 2 undef = .pointer (some ⟨b, 0, none⟩) ∧ own b = some (.mem 2, none) ∧ w.heap[b]? = some (.cells c e (0, 0)) ∧ c.size = 6) ∧
    (∃ b e c, a.tmps.getD 3 undef = .pointer (some ⟨b, 0, none⟩) ∧ own b = some (.mem 3, none) ∧ w.heap[b]? = some (.cells c e (0, 0)) ∧ c.size = 1) := by
  have gen : ∀ (i : Nat) (k : Nat) (c : MV cx.toNm), (stE n y).look i = .addr (.mem k) [] → (stE n y).mems.lookup k = some c → ∃ b e cells, a.tmps.getD i undef = .pointer (some ⟨b, 0, none⟩) ∧ own b = some (.mem k, none) ∧ w.heap[b]? = some (.cells cells e (0, 0)) ∧ cells.size = cx.size c.t := fun i k c hl hk => by
    have hv := hR.vals i
    rw [hl] at hv
    obtain ⟨b, off, cs', c', hp, hval⟩ := hv
    obtain ⟨t0, m0, x0, l0, cs0, h1, h2, h3, h4, h5, h6⟩ := hp
    obtain ⟨b0, e0, cl, f1, f2, f3, f4⟩ := h3
    rw [nav_nil] at h5
    have e5 := congrArg Prod.fst (Option.some.inj h5)
    rw [f1] at e5
    cases e5
    obtain ⟨b1, e1, cells, g1, g2, g3, g4⟩ := hR.mems k _ hk
    have hbb := g4 b f2
    subst hbb
    exact ⟨b, e1, cells, hval, g1, g2, by rw [← Array.length_toList]; exact OW_len cxOk _ _ _ _ _ g3⟩
  exact ⟨gen 2 2 _ rfl rfl, gen 3 3 _ rfl rfl⟩
theorem qv_ret {g : Gl cx} {N : Nat} {st' : ST cx} {e : Exit} {a : Act} {w : World} (h : QV g N kN (.ret, st') e a w) : e = .ret ∧ ∃ own, Rel g own st' a w := by
  cases e with
  | ret => obtain ⟨own, st, h1, h2, h3⟩ := h; exact ⟨rfl, own, norm_rel h1 h2⟩
  | normal => obtain ⟨own, st, h1, h2, h3⟩ := h; cases h2
  | exit i => obtain ⟨own', st', h1, h2, h3⟩ := h; cases h2
  | goto i => exact h.elim
  | panic c => obtain ⟨_, _, _, _, _, _, h2⟩ := h; cases h2
  | outgrown => exact h.elim
theorem qv_norm {g : Gl cx} {N : Nat} {st' : ST cx} {e : Exit} {a : Act} {w : World} (h : QV g N kN (.normal, st') e a w) : e = .normal ∧ a.tmps.size = N ∧ ∃ own, Rel g own st' a w := by
  cases e with
  | normal => obtain ⟨own, st, h1, h2, h3⟩ := h; exact ⟨rfl, h3, own, norm_rel h1 h2⟩
  | ret => obtain ⟨own, st, h1, h2, h3⟩ := h; cases h2
  | exit i => obtain ⟨own', st', h1, h2, h3⟩ := h; cases h2
  | goto i => exact h.elim
  | panic c => obtain ⟨_, _, _, _, _, _, h2⟩ := h; cases h2
  | outgrown => exact h.elim
theorem qf_pan {g : Gl cx} {N : Nat} {I : Nat → Bool} {a0 : Act} {st' : ST cx} {e : Exit} {a : Act} {w : World} (h : QF g N kN (.panic [], st') I a0 e a w) :
    e = .panic [{ v := .iface g.E.pt (.agg #[]), recovered := false }] ∧ a.defers = g.defs ∧ (∃ a1 own, Rel g own st' a1 w ∧ ∀ t, I t = true → a1.tmps.getD t undef = a0.tmps.getD t undef) ∧ ∀ t, I t = true → a.tmps.getD t undef = a0.tmps.getD t undef := by
  cases e with
  | ret => obtain ⟨⟨own, st, h1, h2, h3⟩, _⟩ := h; cases h2
  | normal => obtain ⟨⟨own, st, h1, h2, h3⟩, _⟩ := h; cases h2
  | exit i => obtain ⟨⟨own', st', h1, h2, h3⟩, _⟩ := h; cases h2
  | goto i => exact h.1.elim
  | panic c => obtain ⟨h1, h2, ⟨a1, own, st, h3, h4, h5⟩, h6⟩ := h; exact ⟨by rw [h1], h2, ⟨a1, own, norm_rel h3 h4, h5⟩, h6⟩
  | outgrown => exact h.1.elim
theorem qf_ret {g : Gl cx} {N : Nat} {I : Nat → Bool} {a0 : Act} {st' : ST cx} {e : Exit} {a : Act} {w : World} (h : QF g N kN (.ret, st') I a0 e a w) : e = .ret ∧ (∃ own, Rel g own st' a w) ∧ ∀ t, I t = true → a.tmps.getD t undef = a0.tmps.getD t undef := by
  cases e with
  | ret => obtain ⟨⟨own, st, h1, h2, h3⟩, h4⟩ := h; exact ⟨rfl, ⟨own, norm_rel h1 h2⟩, h4⟩
  | normal => obtain ⟨⟨own, st, h1, h2, h3⟩, _⟩ := h; cases h2
  | exit i => obtain ⟨⟨own', st', h1, h2, h3⟩, _⟩ := h; cases h2
  | goto i => exact h.1.elim
  | panic c => obtain ⟨h1, h2, ⟨a1, own, st, h3, h4, h5⟩, h6⟩ := h; cases h4
  | outgrown => exact h.1.elim
theorem cases3 {s : List UInt8} {r : DPar} (k : Nat)
    (hx : bindQ (s_regex_reading_alt ((s, false), ())) (some ((zRx, 20), ())) (fun r => bindQ (s_need (decide (r.2.1.1 = []), ())) (some ((zRx, 20), ())) fun _ => iteB r.2.1.2 (some ((zRx, 21), ())) (some ((r.1, 0), ()))) = some r) :
    (∃ n y, run E h k P3 (st0 s) kN = some (.ret, stE n y) ∧ r = ((y, n), ())) ∨ (run E h k P3 (st0 s) kN = some (.panic [], stE 0 zRx) ∧ r = ((zRx, 20), ())) := by
  rw [r3]
  cases e1 : s_regex_reading_alt ((s, false), ()) with
  | none => rw [e1] at hx; cases hx
  | some q1 => cases q1 with
    | none => rw [e1] at hx; exact .inr ⟨rfl, (Option.some.inj hx).symm⟩
    | some q1 =>
      rw [e1] at hx
      simp only [bindQ] at hx ⊢
      cases e2 : s_need (decide (q1.2.1.1 = []), ()) with
      | none => rw [e2] at hx; cases hx
      | some q2 => cases q2 with
        | none => rw [e2] at hx; exact .inr ⟨rfl, (Option.some.inj hx).symm⟩
        | some q2 =>
          rw [e2] at hx
          simp only at hx ⊢
          cases e3 : q1.2.1.2 with
          | true => rw [e3] at hx; exact .inl ⟨21, zRx, rfl, (Option.some.inj hx).symm⟩
          | false => rw [e3] at hx; exact .inl ⟨0, q1.1, rfl, (Option.some.inj hx).symm⟩
theorem case1 {s : List UInt8} {r : DPar} (k : Nat) (hx : s_Parse (s, ()) = some r) :
    (∃ n y, run E h k P1 (st0 s) kN = some (.ret, stE n y) ∧ r = ((y, n), ())) ∨ (run E h k P1 (st0 s) kN = some (.normal, st0 s) ∧
      ((∃ n y, run E h k P3 (st0 s) kN = some (.ret, stE n y) ∧ r = ((y, n), ())) ∨ (run E h k P3 (st0 s) kN = some (.panic [], stE 0 zRx) ∧ r = ((zRx, 20), ())))) := by
  rw [r1]
  unfold s_Parse at hx
  simp only at hx
  cases e0 : decide ((100 : Int) < ((List.length s : Nat) : Int)) with
  | true => rw [e0] at hx; exact .inl ⟨21, zRx, rfl, (Option.some.inj hx).symm⟩
  | false =>
    rw [e0] at hx
    simp only [iteB] at hx ⊢
    cases e1 : s_runes_Whole (s, ()) with
    | none => rw [e1] at hx; cases hx
    | some q =>
      rw [e1] at hx
      simp only [bindR] at hx ⊢
      cases e2 : notB q.1 with
      | true => rw [e2] at hx; exact .inl ⟨20, zRx, rfl, (Option.some.inj hx).symm⟩
      | false => rw [e2] at hx; exact .inr ⟨rfl, cases3 k hx⟩
theorem leaves_caught {R : Ending → World → Prop} {tmps : Array Value} {b2 b3 : Nat} {c2 c3 : Array Value} {e2 e3 : TypeId} {w : World} (t2 : tmps.getD 2 undef = .pointer (some ⟨b2, 0, none⟩)) (t3 : tmps.getD 3 undef = .pointer (some ⟨b3, 0, none⟩))
    (h2 : w.heap[b2]? = some (.cells c2 e2 (0, 0))) (hs2 : c2.size = 6) (h3 : w.heap[b3]? = some (.cells c3 e3 (0, 0))) (hs3 : c3.size = 1) (hne : b2 ≠ b3)
    (hR : ∀ w', w'.os = w.os → w'.tape = w.tape → w'.output = w.output → w.heap.size ≤ w'.heap.size → (∀ b, b < w.heap.size → b ≠ b2 → b ≠ b3 → w'.heap[b]? = w.heap[b]?) → R (.returned (packV [.agg (zc tRx).toArray, .int .i64 20])) w') :
    Leaves Try.prog Try.f6 tmps R [{ target := .fn (.func 15) #[.pointer (some ⟨b2, 0, none⟩), .pointer (some ⟨b3, 0, none⟩)], args := #[] }] (.panicking [{ v := .iface 42 (.agg #[]), recovered := false }]) w := by
  refine leaves_cons (by simp) (invoke_clo _ _ w) ((caught b2 b3 c2 c3 e2 e3 w h2 hs2 h3 hs3 hne).mono fun e u' w' hq => ?_)
  obtain ⟨rfl, rfl, q1, q2, q3, q4, q5, q6, q7⟩ := hq
  refine ⟨packV [.agg (zc tRx).toArray, .int .i64 20], run_results (fn := Try.f6) (vs := [.agg (zc tRx).toArray, .int .i64 20]) (.cons ?_ (.cons ?_ .nil)), hR w' q1 q2 q3 q4 q5⟩
  · have hl := run_loadAt (tysT [] false 0 28 tRx (by kernel_rfl)) (b := b2) (off := 0) (cs := zc tRx) (w := w') (cellsAt_all q6 (by kernel_rfl))
    simp only [RvRun, t2]
    exact hl
  · have hl := run_loadAt (tysT [] false 0 29 (.int .i64) (by kernel_rfl)) (b := b3) (off := 0) (cs := [.int .i64 20]) (w := w') (cellsAt_all q7 rfl)
    simp only [RvRun, t3]
    exact hl
end Parse
open Parse in
theorem ok_Parse : FnOk Try.prog F_Parse 6 := by
  refine .of rfl ?_
  intro w Z own vs x r hZ hown hA hG hx
  have hzn : ∀ b, Z b → b < w.heap.size ∧ ¬ own b ≠ none := fun b hb => ⟨(hZ b hb).1, fun h => h (hZ b hb).2⟩
  have hfs : ∀ f F, E.fs f = some F → FnOk Try.prog F f := fs_cons ok_runes_Whole (fs_cons ok_regex_reading_alt (fs_cons ok_need fs_nil))
  have T : TysOk Try.prog E := tysT _ _ _
  obtain ⟨v, rfl⟩ : ∃ v, vs = [v] := by
    match vs, hA with
    | [v], _ => exact ⟨v, rfl⟩
  obtain ⟨s, ⟨⟩⟩ := x
  have hrel := rel_in (P := Try.prog) (E := E) (n := Try.f6.ntmps) (ps := F_Parse.ps) (x := (s, ())) hZ hown hA hzn hG
  have henter : (callFunc 6 [v].toArray).run Try.prog w = .ok (.enter 6 [v].toArray) w := by
    simp only [callFunc, Sem.run_bind, run_program, Result.andThen_ok, Try.func6]
    rfl
  unfold Enters
  rw [henter]
  have hpin : ∀ d, d < Try.f6.ntmps → pinOf (ioArgs ioBase F_Parse.ps (flatV F_Parse.ps [] [v])) d = none := fun d hd => rfl
  have hfin : ∀ (gd : List Deferred) (n : Int) (y : DRx) own' a' w', Rel ⟨Try.prog, E, w, Z, fun b => own b ≠ none, pinOf (ioArgs ioBase F_Parse.ps (flatV F_Parse.ps [] [v])), hzn, hG, gd⟩ own' (stE n y) a' w' → r = ((y, n), ()) →
      ∃ v', (results Try.f6 a'.tmps).run Try.prog w' = .ok v' w' ∧ ∃ v'', Ending.returned v' = .returned v'' ∧ ∃ own'', Left own own'' w w' ∧ ResR w' (zoneOf Z own own'' w w') own'' F_Parse v'' r.1 ∧ OutsR cx w' (zoneOf Z own own'' w w') own'' (ioArgs ioBase F_Parse.ps (flatV F_Parse.ps [] [v])) (outs F_Parse.ps) r.2 := by
    intro gd n y own' a' w' h1 hr
    have hE := resE n y
    cases e1 : resAll E Try.f6.results.toList F_Parse.rt F_Parse.rm (stE n y) with
    | none => rw [e1] at hE; cases hE
    | some q =>
      obtain ⟨q1, q2⟩ := q
      rw [e1] at hE
      have hq : q1 = (y, n) := Option.some.inj hE
      subst hq
      obtain ⟨own1, v', k1, k2, k3⟩ := resAll_ok (F := F_Parse) cxOk T h1 rfl e1
      refine ⟨v', k2, v', rfl, own1, ⟨k1.os, k1.tape, k1.output, k1.size, fun b hb hn => k1.block b hb (by simpa using hn), fun b hb => ⟨(k1.fresh b hb).2, (k1.fresh b hb).1⟩⟩, ?_, ?_⟩
      · rw [hr]; exact k3
      · trivial
  have main : ∀ (R : Ending → World → Prop), (∀ (gd : List Deferred) (n : Int) (y : DRx) own' a' w', Rel ⟨Try.prog, E, w, Z, fun b => own b ≠ none, pinOf (ioArgs ioBase F_Parse.ps (flatV F_Parse.ps [] [v])), hzn, hG, gd⟩ own' (stE n y) a' w' → r = ((y, n), ()) → Leaves Try.prog Try.f6 a'.tmps R [] .returning w') →
      (r = (((zRx, (20 : Int)), ()) : DPar) → ∀ w', Left own (fun _ => none) w w' → R (.returned (packV [.agg (zc tRx).toArray, .int .i64 20])) w') →
      (Code.seq P0 (.seq P1 (.seq P2 P3))).wp Try.prog (bodyPostD Try.prog Try.f6 R) ⟨[v].toArray ++ Array.replicate (Try.f6.ntmps - [v].toArray.size) undef, []⟩ w := by
    intro R hL hC
    refine wp_seq (wp_mono (run_sound (g := ⟨Try.prog, E, w, Z, fun b => own b ≠ none, pinOf (ioArgs ioBase F_Parse.ps (flatV F_Parse.ps [] [v])), hzn, hG, []⟩) (n := Try.f6.ntmps) cxOk T hfs follows hpin P0 _ kN _ _ _ w code0 hrel (by simp) (r0 0 s)) ?_)
    intro e a1 w1 hq
    obtain ⟨rfl, hsz1, own1, h1⟩ := qv_norm hq
    refine wp_seq ?_
    rcases case1 0 hx with ⟨n, y, k1, k2⟩ | ⟨k1, k2⟩
    · refine wp_mono (run_sound (g := ⟨Try.prog, E, w, Z, fun b => own b ≠ none, pinOf (ioArgs ioBase F_Parse.ps (flatV F_Parse.ps [] [v])), hzn, hG, []⟩) (n := Try.f6.ntmps) cxOk T hfs follows hpin P1 (st0 s) kN _ own1 a1 w1 code1 h1 hsz1 k1) ?_
      intro e a2 w2 hq
      obtain ⟨rfl, own2, h2⟩ := qv_ret hq
      show Leaves Try.prog Try.f6 a2.tmps R a2.defers .returning w2
      rw [h2.defs]
      exact hL _ n y _ _ _ h2 k2
    refine wp_mono (run_sound (g := ⟨Try.prog, E, w, Z, fun b => own b ≠ none, pinOf (ioArgs ioBase F_Parse.ps (flatV F_Parse.ps [] [v])), hzn, hG, []⟩) (n := Try.f6.ntmps) cxOk T hfs follows hpin P1 (st0 s) kN _ own1 a1 w1 code1 h1 hsz1 k1) ?_
    intro e a2 w2 hq
    obtain ⟨rfl, hsz2, own2, h2⟩ := qv_norm hq
    refine wp_seq (p2 a2 w2 h2.defs hsz2 ?_)
    have hb := box_at (n := 0) (y := zRx) (cast (congrArg (fun z => Rel _ own2 z a2 w2) (norm_is s)) (h2.norm ([2, 3], [2, 3])))
    obtain ⟨⟨b2, e2, c2, t2, o2, g2, s2⟩, ⟨b3, e3, c3, t3, o3, g3, s3⟩⟩ := hb
    generalize hd : ({ target := .fn (.func 15) #[a2.tmps.getD 2 undef, a2.tmps.getD 3 undef], args := #[] } : Deferred) = d
    have h3 : Rel ⟨Try.prog, E, w, Z, fun b => own b ≠ none, pinOf (ioArgs ioBase F_Parse.ps (flatV F_Parse.ps [] [v])), hzn, hG, [d]⟩ own2 (st0 s) ⟨(a2.put (some 16) (clo a2)).tmps, [d]⟩ w2 := by
      have := (h2.put h (d := 16) (x := .dead) (v := clo a2) (by rw [hsz2, ntm]; decide) trivial).norm ([0, 2, 3], [2, 3])
      have this := cast (congrArg (fun z => Rel _ own2 z (a2.put (some 16) (clo a2)) w2) (put_is s)) this
      exact ⟨this.os, this.tape, this.output, this.size, this.block, this.fresh, fun i => tr_defs i _ _ (this.vals i), this.mems, rfl, this.pins⟩
    have hI : ∀ t, (Nat.beq t 2 || Nat.beq t 3) = true → fixC P3 t = true := fun t ht => by
      have hf := fix3
      simp only [Bool.or_eq_true, Bool.and_eq_true] at ht hf
      rcases ht with ht | ht
      · rw [Nat.eq_of_beq_eq_true ht]; exact hf.1
      · rw [Nat.eq_of_beq_eq_true ht]; exact hf.2
    have ht2 : (a2.put (some 16) (clo a2)).tmps.getD 2 undef = .pointer (some ⟨b2, 0, none⟩) := by rw [← t2]; simp [Act.put]
    have ht3 : (a2.put (some 16) (clo a2)).tmps.getD 3 undef = .pointer (some ⟨b3, 0, none⟩) := by rw [← t3]; simp [Act.put]
    have snd := fun res hres => run_soundF (g := ⟨Try.prog, E, w, Z, fun b => own b ≠ none, pinOf (ioArgs ioBase F_Parse.ps (flatV F_Parse.ps [] [v])), hzn, hG, [d]⟩) (n := Try.f6.ntmps) (I := fun t => Nat.beq t 2 || Nat.beq t 3) (a0 := ⟨(a2.put (some 16) (clo a2)).tmps, [d]⟩) cxOk T hfs follows hpin P3 (st0 s) kN res own2 ⟨(a2.put (some 16) (clo a2)).tmps, [d]⟩ w2 code3 hI (fun t ht => rfl) h3 (by simp [Act.put, hsz2]) (k := 0) hres
    rcases k2 with ⟨n, y, k2, k3⟩ | ⟨k2, k3⟩
    · refine wp_mono (snd _ k2) fun e a3 w3 hq => ?_
      obtain ⟨rfl, ⟨own3, h4⟩, _⟩ := qf_ret hq
      show Leaves Try.prog Try.f6 a3.tmps R a3.defers .returning w3
      rw [h4.defs]
      show Leaves Try.prog Try.f6 a3.tmps R [d] .returning w3
      rw [← hd, t2, t3]
      refine leaves_cons (by simp) (invoke_clo _ _ w3) ((idle _ _ w3).mono fun e u' w' hq => ?_)
      obtain ⟨rfl, rfl, rfl⟩ := hq
      exact hL _ n y _ _ _ h4 k3
    · refine wp_mono (snd _ k2) fun e a3 w3 hq => ?_
      obtain ⟨rfl, hdf, ⟨a4, own3, h4, h5⟩, h6⟩ := qf_pan hq
      show Leaves Try.prog Try.f6 a3.tmps R a3.defers (.panicking _) w3
      rw [hdf]
      show Leaves Try.prog Try.f6 a3.tmps R [d] (.panicking _) w3
      obtain ⟨⟨b2', e2', c2', t2', o2', g2', s2'⟩, ⟨b3', e3', c3', t3', o3', g3', s3'⟩⟩ := box_at h4
      have q2 := t2'.symm.trans ((h5 2 rfl).trans ht2)
      have q3 := t3'.symm.trans ((h5 3 rfl).trans ht3)
      cases q2
      cases q3
      rw [← hd, t2, t3]
      refine leaves_caught ((h6 2 rfl).trans ht2) ((h6 3 rfl).trans ht3) g2' s2' g3' s3' (fun e => by rw [e, o3'] at o2'; cases o2') fun w' q1 q2 q3 q4 q5 => hC k3 w' ⟨q1.trans h4.os, q2.trans h4.tape, q3.trans h4.output, Nat.le_trans h4.size q4, fun b hb ho => ?_, fun b hb => absurd rfl hb⟩
      have nb : ∀ b' k, own3 b' = some (.mem k, none) → b ≠ b' := fun b' k hb' e => by
        subst e
        rcases (h4.fresh b (by rw [hb']; simp)).1 with q | q
        · exact absurd hb (Nat.not_lt.2 q)
        · exact q ho
      exact (q5 b (Nat.lt_of_lt_of_le hb h4.size) (nb _ _ o2') (nb _ _ o3')).trans (h4.block b hb (fun q => q ho))
  refine calls_of_wp_defers Try.func6 body_is (main _ (fun gd n y own' a' w' h1 h2 => hfin gd n y own' a' w' h1 h2) (fun hr w' hw => ⟨_, rfl, fun _ => none, hw, ?_, ?_⟩))
  · rw [hr]
    exact ⟨_, rfl, ⟨_, rfl, R_zc (S := cx) tRx (by kernel_rfl)⟩, _, rfl, 0, rfl⟩
  · trivial
end
end Go.Proofs.Ytndffgpoljojaaa.Vm.Rx
