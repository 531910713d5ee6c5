/- What the other functions compute, as plain functions; that they do. -/
import Derived.Test.YtogipciicekmoaaDoorFns
import Derived.KernelRfl
namespace Go.Proofs.YtogipciicekmoaaDoor.Vm.Gr
open Go Go.Proofs.YtogipciicekmoaaDoor.Vm Go.Proofs
set_option linter.unusedVariables false
set_option maxRecDepth 100000
noncomputable section
namespace ref01_Sign
def E : Env cx := { tys := tys, fs := fsOf [] }
abbrev R := Option (D19)
def h : Hint := { vs := [0, 2], ret := ([2], []) }
def W : Pr cx (D19) := ⟨E, h, bodyC Tryd.f56, fin (S := cx) E Tryd.f56.results.toList .bool .ro [] []⟩
abbrev T0 := D26 → R
def u0 (k : Nat) : T0 := fun a => runOf (S := cx) E h k Tryd.f56 [.val (.int .i64)] .bool .ro a
def t0 : T0 := fun a => (iteB (decide ((0 : Int) ≤ a.1)) (iteB (decide (a.1 < (1114112 : Int))) (iteB (decide ((55296 : Int) ≤ a.1)) (some ((notB (decide (a.1 ≤ (57343 : Int)))), ())) (some (true, ()))) (some (false, ()))) (some (false, ())))
def p0 (k : Nat) : T0 := t0
theorem o0 (k : Nat) : u0 k = p0 k := Eq.trans (by kernel_rfl) rfl
end ref01_Sign
def s_ref01_Sign (a : D26) : Option D19 := ref01_Sign.p0 fuel a
def F_ref01_Sign : FSpec cx.toNm := { ps := [.val (.int .i64)], nres := 1, rt := .bool, rm := .ro, f := s_ref01_Sign }
theorem ok_ref01_Sign : FnOk Tryd.prog F_ref01_Sign 56 := fn_of (F := F_ref01_Sign) (hn := ref01_Sign.h) (E := ref01_Sign.E) cxOk (tysT _ _ _) fs_nil follows Tryd.func56 (by kernel_rfl) (fun a r h => ⟨fuel, (congrFun (ref01_Sign.o0 fuel) a).trans ((by kernel_rfl : s_ref01_Sign a = F_ref01_Sign.f a).trans h)⟩)
namespace ref01_Bytes
def E : Env cx := { tys := tys, fs := fsOf [(56, F_ref01_Sign)] }
abbrev R := Option (D17)
def h : Hint := { vs := [0, 2], ret := ([2], []) }
def W : Pr cx (D17) := ⟨E, h, bodyC Tryd.f57, fin (S := cx) E Tryd.f57.results.toList .str .ro [] []⟩
abbrev T0 := D26 → R
def u0 (k : Nat) : T0 := fun a => runOf (S := cx) E h k Tryd.f57 [.val (.int .i64)] .str .ro a
def t0 : T0 := fun a => (bindR (s_ref01_Sign (a.1, ())) fun r1 => (iteB (notB r1.1) (some (([] : List UInt8), ())) (iteB (decide (a.1 < (128 : Int))) (some ((bytesOf ([(w8 (a.1))] : List (Int))), ())) (iteB (decide (a.1 < (2048 : Int))) (some ((bytesOf ([(w8 ((w64 ((192 : Int) + (w64 (Int.tdiv a.1 (64 : Int))))))), (w8 ((w64 ((128 : Int) + (Int.tmod a.1 (64 : Int))))))] : List (Int))), ())) (iteB (decide (a.1 < (65536 : Int))) (some ((bytesOf ([(w8 ((w64 ((224 : Int) + (w64 (Int.tdiv a.1 (4096 : Int))))))), (w8 ((w64 ((128 : Int) + (Int.tmod (w64 (Int.tdiv a.1 (64 : Int))) (64 : Int)))))), (w8 ((w64 ((128 : Int) + (Int.tmod a.1 (64 : Int))))))] : List (Int))), ())) (some ((bytesOf ([(w8 ((w64 ((240 : Int) + (w64 (Int.tdiv a.1 (262144 : Int))))))), (w8 ((w64 ((128 : Int) + (Int.tmod (w64 (Int.tdiv a.1 (4096 : Int))) (64 : Int)))))), (w8 ((w64 ((128 : Int) + (Int.tmod (w64 (Int.tdiv a.1 (64 : Int))) (64 : Int)))))), (w8 ((w64 ((128 : Int) + (Int.tmod a.1 (64 : Int))))))] : List (Int))), ())))))))
def p0 (k : Nat) : T0 := t0
theorem o0 (k : Nat) : u0 k = p0 k := Eq.trans (by kernel_rfl) rfl
end ref01_Bytes
def s_ref01_Bytes (a : D26) : Option D17 := ref01_Bytes.p0 fuel a
def F_ref01_Bytes : FSpec cx.toNm := { ps := [.val (.int .i64)], nres := 1, rt := .str, rm := .ro, f := s_ref01_Bytes }
theorem ok_ref01_Bytes : FnOk Tryd.prog F_ref01_Bytes 57 := fn_of (F := F_ref01_Bytes) (hn := ref01_Bytes.h) (E := ref01_Bytes.E) cxOk (tysT _ _ _) (fs_cons ok_ref01_Sign fs_nil) follows Tryd.func57 (by kernel_rfl) (fun a r h => ⟨fuel, (congrFun (ref01_Bytes.o0 fuel) a).trans ((by kernel_rfl : s_ref01_Bytes a = F_ref01_Bytes.f a).trans h)⟩)
namespace ref01_First
def E : Env cx := { tys := tys, fs := fsOf [(56, F_ref01_Sign), (57, F_ref01_Bytes)] }
abbrev R := Option (D36)
def h : Hint := { vs := [0, 2, 3, 4, 5, 6, 7, 8, 9], ret := ([2, 3], []), ords := [(18, [0, 1, 2, 3, 4, 5, 6, 7, 9, 10, 11, 8, 12, 13])], cuts := [(2, ([0, 4], []), ([], [])), (3, ([0, 4], []), ([0, 4], [])), (4, ([0, 4], []), ([0, 4], [])), (6, ([0, 4, 5, 6], []), ([0, 4], [])), (9, ([0, 4], []), ([0, 4], [])), (15, ([0, 4, 5, 8, 9], []), ([0, 4, 5, 8], [])), (18, ([0, 4, 5, 8], []), ([0, 4], [])), (19, ([0, 4, 5, 74], []), ([0, 4], [])), (20, ([], []), ([], [])), (1000000, ([0, 4, 17], []), ([0, 4], []))] }
def W : Pr cx (D36) := ⟨E, h, bodyC Tryd.f41, fin (S := cx) E Tryd.f41.results.toList t23 .ro [] []⟩
abbrev T10 := (List UInt8) → Int → R
abbrev T9 := (List UInt8) → Int → Int → Bool → R
abbrev T7 := (List UInt8) → Int → Int → Int → R
abbrev T8 := (List UInt8) → Int → Int → Int → Int → R
abbrev T6 := (List UInt8) → Int → R
abbrev T5 := (List UInt8) → Int → Int → Int → R
abbrev T3 := (List UInt8) → Int → R
abbrev T4 := R
abbrev T2 := (List UInt8) → Int → Bool → R
abbrev T1 := (List UInt8) → Int → R
abbrev T0 := D17 → R
def u0 (k : Nat) : T0 := fun a => runOf (S := cx) E h k Tryd.f41 [.val .str] t23 .ro a
abbrev l10 (c : Bool) (k n1 : Nat) : T10 := fun x0 x4 => lfR c W k [1, 0, 1, 0, 0, 1, 1] [n1] ⟨[(0, vS x0), (4, vI x4)], [], []⟩
abbrev l9 (c : Bool) (k n1 : Nat) : T9 := fun x0 x4 x5 x74 => lfR c W k [1, 0, 1, 0, 0, 1, 0, 0, 1, 1, 1, 1, 1, 1] [n1] ⟨[(0, vS x0), (4, vI x4), (5, vI x5), (74, vB x74)], [], []⟩
abbrev l7 (c : Bool) (k n1 : Nat) : T7 := fun x0 x4 x5 x8 => lfR c W k [1, 0, 1, 0, 0, 1, 0, 0, 1, 1, 1, 1, 1] [n1] ⟨[(0, vS x0), (4, vI x4), (5, vI x5), (8, vI x8)], [], []⟩
abbrev l8 (c : Bool) (k n1 n8 : Nat) : T8 := fun x0 x4 x5 x8 x9 => lfL c W k [1, 0, 1, 0, 0, 1, 0, 0, 1, 1, 1, 1, 0, 1, 1, 1, 1, 0] [n1] n8 ⟨[(0, vS x0), (4, vI x4), (5, vI x5), (8, vI x8), (9, vI x9)], [], []⟩
abbrev l6 (c : Bool) (k n1 : Nat) : T6 := fun x0 x4 => lfR c W k [1, 0, 1, 0, 0, 1, 0, 0, 1, 1] [n1] ⟨[(0, vS x0), (4, vI x4)], [], []⟩
abbrev l5 (c : Bool) (k n1 n5 : Nat) : T5 := fun x0 x4 x5 x6 => lfL c W k [1, 0, 1, 0, 0, 1, 0, 0, 1, 0, 1, 0] [n1] n5 ⟨[(0, vS x0), (4, vI x4), (5, vI x5), (6, vI x6)], [], []⟩
abbrev l3 (c : Bool) (k n1 : Nat) : T3 := fun x0 x4 => lfR c W k [1, 0, 1, 0, 0, 1] [n1] ⟨[(0, vS x0), (4, vI x4)], [], []⟩
abbrev l4 (c : Bool) (k : Nat) : T4 := lfR c W k [1, 1] [] ⟨[], [], []⟩
abbrev l2 (c : Bool) (k n1 : Nat) : T2 := fun x0 x4 x17 => lfR c W k [1, 0, 1, 0, 0, 0, 1] [n1] ⟨[(0, vS x0), (4, vI x4), (17, vB x17)], [], []⟩
abbrev l1 (c : Bool) (k n1 : Nat) : T1 := fun x0 x4 => lfL c W k [1, 0, 1, 0] [] n1 ⟨[(0, vS x0), (4, vI x4)], [], []⟩
def t10 (f1 : T1) : T10 := fun x0 x4 => (f1 x0 (w64 (x4 + (1 : Int))))
def p10 (k : Nat) (a1 : T1) : T10 := t10 a1
theorem o10 (k n1 : Nat) (a1 : T1) (h1 : l1 true k n1 = a1) : l10 true k n1 = p10 k a1 := lfo (b := l10 false k n1) (fx2 fun _ _ => lcR) (by kernel_rfl) (congrArg t10 h1)
def t9 (f10 : T10) : T9 := fun x0 x4 x5 x74 => (iteB x74 (some ((x5, x4), ())) (f10 x0 x4))
def p9 (k : Nat) (a1 : T1) : T9 := t9 (p10 k a1)
theorem o9 (k n1 : Nat) (a1 : T1) (h1 : l1 true k n1 = a1) : l9 true k n1 = p9 k a1 := lfo (b := l9 false k n1) (fx4 fun _ _ _ _ => lcR) (by kernel_rfl) (congrArg t9 (o10 k n1 a1 h1))
def t7 (f9 : T9) : T7 := fun x0 x4 x5 x8 => (iteB (decide ((0 : Int) ≤ x8)) (bindR (s_ref01_Sign (x5, ())) fun r5 => (iteB r5.1 (mustR (decide (0 ≤ x4)) (mustR (decide (x4 ≤ (((List.length x0) : Nat) : Int))) (bindR (s_ref01_Bytes (x5, ())) fun r6 => (f9 x0 x4 x5 (decide (r6.1 = (List.drop 0 (List.take (Int.toNat x4) x0)))))))) (f9 x0 x4 x5 false))) (f9 x0 x4 x5 false))
def p7 (k : Nat) (a1 : T1) : T7 := t7 (p9 k a1)
theorem o7 (k n1 : Nat) (a1 : T1) (h1 : l1 true k n1 = a1) : l7 true k n1 = p7 k a1 := lfo (b := l7 false k n1) (fx4 fun _ _ _ _ => lcR) (by kernel_rfl) (congrArg t7 (o9 k n1 a1 h1))
def t8 (f8 : T8) (f7 : T7) : T8 := fun x0 x4 x5 x8 x9 => (iteB (decide (x9 < x4)) (withinR x9 (List.length x0) fun q7 => (f8 x0 x4 (w64 ((w64 ((64 : Int) * x5)) + (w64 ((Int.tmod (byteAt x0 q7) (64 : Int)))))) x8 (w64 (x9 + (1 : Int))))) (f7 x0 x4 x5 x8))
def p8 (k : Nat) (a1 : T1) : Nat → T8 := iter fun f => t8 f (p7 k a1)
theorem o8 (k n1 : Nat) (a1 : T1) (h1 : l1 true k n1 = a1) : ∀ n, l8 true k n1 n = p8 k a1 n := oL (u := l8 false k n1) (by kernel_rfl) (fun n8 => (fx5 fun _ _ _ _ _ => lcL)) (fun n8 => by kernel_rfl) (fun n8 f h => (congr (congrArg t8 h) (o7 k n1 a1 h1)))
def t6 (f7 : T7) (f8 : T8) : T6 := fun x0 x4 => (withinR x4 (List.length ([(0 : Int), (0 : Int), (192 : Int), (224 : Int), (240 : Int)] : List (Int))) fun q2 => (withinR (0 : Int) (List.length x0) fun q3 => (iteB (decide (x4 = (1 : Int))) (withinR (0 : Int) (List.length x0) fun q4 => (f7 x0 x4 (w64 ((byteAt x0 q4))) (w64 ((w64 ((byteAt x0 q3))) - (List.getD ([(0 : Int), (0 : Int), (192 : Int), (224 : Int), (240 : Int)] : List (Int)) q2 (0 : Int)))))) (f8 x0 x4 (w64 ((w64 ((byteAt x0 q3))) - (List.getD ([(0 : Int), (0 : Int), (192 : Int), (224 : Int), (240 : Int)] : List (Int)) q2 (0 : Int)))) (w64 ((w64 ((byteAt x0 q3))) - (List.getD ([(0 : Int), (0 : Int), (192 : Int), (224 : Int), (240 : Int)] : List (Int)) q2 (0 : Int)))) (1 : Int)))))
def p6 (k : Nat) (a1 : T1) : T6 := t6 (p7 k a1) (p8 k a1 k)
theorem o6 (k n1 : Nat) (a1 : T1) (h1 : l1 true k n1 = a1) : l6 true k n1 = p6 k a1 := lfo (b := l6 false k n1) (fx2 fun _ _ => lcR) (by kernel_rfl) (by have h := (congr (congrArg t6 (o7 k n1 a1 h1)) (o8 k n1 a1 h1 k)); exact h)
def t5 (f5 : T5) (f6 : T6) : T5 := fun x0 x4 x5 x6 => (iteB (decide (x6 < x4)) (withinR x6 (List.length x0) fun q1 => (f5 x0 x4 (w64 ((w64 ((64 : Int) * x5)) + (w64 ((Int.tmod (byteAt x0 q1) (64 : Int)))))) (w64 (x6 + (1 : Int))))) (f6 x0 x4))
def p5 (k : Nat) (a1 : T1) : Nat → T5 := iter fun f => t5 f (p6 k a1)
theorem o5 (k n1 : Nat) (a1 : T1) (h1 : l1 true k n1 = a1) : ∀ n, l5 true k n1 n = p5 k a1 n := oL (u := l5 false k n1) (by kernel_rfl) (fun n5 => (fx4 fun _ _ _ _ => lcL)) (fun n5 => by kernel_rfl) (fun n5 f h => (congr (congrArg t5 h) (o6 k n1 a1 h1)))
def t3 (f5 : T5) : T3 := fun x0 x4 => (f5 x0 x4 (0 : Int) (0 : Int))
def p3 (k : Nat) (a1 : T1) : T3 := t3 (p5 k a1 k)
theorem o3 (k n1 : Nat) (a1 : T1) (h1 : l1 true k n1 = a1) : l3 true k n1 = p3 k a1 := lfo (b := l3 false k n1) (fx2 fun _ _ => lcR) (by kernel_rfl) (congrArg t3 (o5 k n1 a1 h1 k))
def t4 : T4 := (some (((-1 : Int), (0 : Int)), ()))
def p4 (k : Nat) : T4 := t4
theorem o4 (k : Nat) : l4 true k = p4 k := lfo (b := l4 false k) lcR (by kernel_rfl) rfl
def t2 (f3 : T3) (f4 : T4) : T2 := fun x0 x4 x17 => (iteB x17 (f3 x0 x4) f4)
def p2 (k : Nat) (a1 : T1) : T2 := t2 (p3 k a1) (p4 k)
theorem o2 (k n1 : Nat) (a1 : T1) (h1 : l1 true k n1 = a1) : l2 true k n1 = p2 k a1 := lfo (b := l2 false k n1) (fx3 fun _ _ _ => lcR) (by kernel_rfl) (by have h := (congr (congrArg t2 (o3 k n1 a1 h1)) (o4 k)); exact h)
def t1 (f2 : T2) : T1 := fun x0 x4 => (iteB (decide (x4 ≤ (4 : Int))) (f2 x0 x4 (decide (x4 ≤ ((List.length x0 : Nat) : Int)))) (f2 x0 x4 false))
def p1 (k : Nat) : Nat → T1 := iter fun f => t1 (p2 k f)
theorem o1 (k : Nat) : ∀ n, l1 true k n = p1 k n := oL (u := l1 false k) (by kernel_rfl) (fun n1 => (fx2 fun _ _ => lcL)) (fun n1 => by kernel_rfl) (fun n1 f h => (congrArg t1 (o2 k n1 f h)))
def t0 (f1 : T1) : T0 := fun a => (f1 a.1 (1 : Int))
def p0 (k : Nat) : T0 := t0 (p1 k k)
theorem o0 (k : Nat) : u0 k = p0 k := Eq.trans (by kernel_rfl) (congrArg t0 (o1 k k))
end ref01_First
def s_ref01_First (a : D17) : Option D36 := ref01_First.p0 fuel a
def F_ref01_First : FSpec cx.toNm := { ps := [.val .str], nres := 2, rt := t23, rm := .ro, f := s_ref01_First }
theorem ok_ref01_First : FnOk Tryd.prog F_ref01_First 41 := fn_of (F := F_ref01_First) (hn := ref01_First.h) (E := ref01_First.E) cxOk (tysT _ _ _) (fs_cons ok_ref01_Sign (fs_cons ok_ref01_Bytes fs_nil)) follows Tryd.func41 (by kernel_rfl) (fun a r h => ⟨fuel, (congrFun (ref01_First.o0 fuel) a).trans ((by kernel_rfl : s_ref01_First a = F_ref01_First.f a).trans h)⟩)
namespace ref01_Whole
def E : Env cx := { tys := tys, fs := fsOf [(41, F_ref01_First)] }
abbrev R := Option (D19)
def h : Hint := { vs := [0, 2, 4], ret := ([2], []), cuts := [(1, ([0], []), ([0], [])), (6, ([], []), ([], []))] }
def W : Pr cx (D19) := ⟨E, h, bodyC Tryd.f13, fin (S := cx) E Tryd.f13.results.toList .bool .ro [] []⟩
abbrev T2 := R
abbrev T1 := (List UInt8) → R
abbrev T0 := D17 → R
def u0 (k : Nat) : T0 := fun a => runOf (S := cx) E h k Tryd.f13 [.val .str] .bool .ro a
abbrev l2 (c : Bool) (k : Nat) : T2 := lfR c W k [1, 1] [] ⟨[], [], []⟩
abbrev l1 (c : Bool) (k n1 : Nat) : T1 := fun x0 => lfL c W k [1, 0, 0] [] n1 ⟨[(0, vS x0)], [], []⟩
def t2 : T2 := (some (true, ()))
def p2 (k : Nat) : T2 := t2
theorem o2 (k : Nat) : l2 true k = p2 k := lfo (b := l2 false k) lcR (by kernel_rfl) rfl
def t1 (f1 : T1) (f2 : T2) : T1 := fun x0 => (iteB (decide ((0 : Int) < ((List.length x0 : Nat) : Int))) (bindR (s_ref01_First (x0, ())) fun r1 => (iteB (decide (r1.1.2 = (0 : Int))) (some (false, ())) (mustR (decide (0 ≤ r1.1.2)) (mustR (decide (r1.1.2 ≤ (((List.length x0) : Nat) : Int))) (f1 (List.drop (Int.toNat r1.1.2) (List.take (List.length x0) x0))))))) f2)
def p1 (k : Nat) : Nat → T1 := iter fun f => t1 f (p2 k)
theorem o1 (k : Nat) : ∀ n, l1 true k n = p1 k n := oL (u := l1 false k) (by kernel_rfl) (fun n1 => (fx1 fun _ => lcL)) (fun n1 => by kernel_rfl) (fun n1 f h => (congr (congrArg t1 h) (o2 k)))
def t0 (f1 : T1) : T0 := fun a => (f1 a.1)
def p0 (k : Nat) : T0 := t0 (p1 k k)
theorem o0 (k : Nat) : u0 k = p0 k := Eq.trans (by kernel_rfl) (congrArg t0 (o1 k k))
end ref01_Whole
def s_ref01_Whole (a : D17) : Option D19 := ref01_Whole.p0 fuel a
def F_ref01_Whole : FSpec cx.toNm := { ps := [.val .str], nres := 1, rt := .bool, rm := .ro, f := s_ref01_Whole }
theorem ok_ref01_Whole : FnOk Tryd.prog F_ref01_Whole 13 := fn_of (F := F_ref01_Whole) (hn := ref01_Whole.h) (E := ref01_Whole.E) cxOk (tysT _ _ _) (fs_cons ok_ref01_First fs_nil) follows Tryd.func13 (by kernel_rfl) (fun a r h => ⟨fuel, (congrFun (ref01_Whole.o0 fuel) a).trans ((by kernel_rfl : s_ref01_Whole a = F_ref01_Whole.f a).trans h)⟩)
namespace ref10_Name
def E : Env cx := { tys := tys, fs := fsOf [] }
abbrev R := Option (D19)
def h : Hint := { vs := [0, 2, 3, 4, 5], ret := ([2], []), cuts := [(2, ([0, 3], []), ([0], [])), (3, ([0, 3], []), ([0, 3], [])), (6, ([0, 3, 4, 5], []), ([0, 3], [])), (7, ([0, 3, 47], []), ([0, 3], [])), (8, ([0], []), ([0], []))] }
def W : Pr cx (D19) := ⟨E, h, bodyC Tryd.f17, fin (S := cx) E Tryd.f17.results.toList .bool .ro [] []⟩
abbrev T5 := (List UInt8) → Int → R
abbrev T4 := (List UInt8) → Int → Bool → R
abbrev T2 := (List UInt8) → Int → Int → Bool → R
abbrev T3 := (List UInt8) → R
abbrev T1 := (List UInt8) → Int → R
abbrev T0 := D17 → R
def u0 (k : Nat) : T0 := fun a => runOf (S := cx) E h k Tryd.f17 [.val .str] .bool .ro a
abbrev l5 (c : Bool) (k n1 : Nat) : T5 := fun x0 x3 => lfR c W k [1, 0, 1, 0, 0, 1, 1] [n1] ⟨[(0, vS x0), (3, vI x3)], [], []⟩
abbrev l4 (c : Bool) (k n1 : Nat) : T4 := fun x0 x3 x47 => lfR c W k [1, 0, 1, 0, 0, 1, 0, 0, 1, 1, 1] [n1] ⟨[(0, vS x0), (3, vI x3), (47, vB x47)], [], []⟩
abbrev l2 (c : Bool) (k n1 : Nat) : T2 := fun x0 x3 x4 x5 => lfR c W k [1, 0, 1, 0, 0, 1, 0, 0, 1, 1] [n1] ⟨[(0, vS x0), (3, vI x3), (4, vR (.int .u8) x4), (5, vB x5)], [], []⟩
abbrev l3 (c : Bool) (k : Nat) : T3 := fun x0 => lfR c W k [1, 1] [] ⟨[(0, vS x0)], [], []⟩
abbrev l1 (c : Bool) (k n1 : Nat) : T1 := fun x0 x3 => lfL c W k [1, 0, 1, 0] [] n1 ⟨[(0, vS x0), (3, vI x3)], [], []⟩
def t5 (f1 : T1) : T5 := fun x0 x3 => (f1 x0 (w64 (x3 + (1 : Int))))
def p5 (k : Nat) (a1 : T1) : T5 := t5 a1
theorem o5 (k n1 : Nat) (a1 : T1) (h1 : l1 true k n1 = a1) : l5 true k n1 = p5 k a1 := lfo (b := l5 false k n1) (fx2 fun _ _ => lcR) (by kernel_rfl) (congrArg t5 h1)
def t4 (f5 : T5) : T4 := fun x0 x3 x47 => (iteB x47 (some (false, ())) (f5 x0 x3))
def p4 (k : Nat) (a1 : T1) : T4 := t4 (p5 k a1)
theorem o4 (k n1 : Nat) (a1 : T1) (h1 : l1 true k n1 = a1) : l4 true k n1 = p4 k a1 := lfo (b := l4 false k n1) (fx3 fun _ _ _ => lcR) (by kernel_rfl) (congrArg t4 (o5 k n1 a1 h1))
def t2 (f4 : T4) : T2 := fun x0 x3 x4 x5 => (iteB (notB x5) (iteB (decide (x3 = (0 : Int))) (f4 x0 x3 true) (iteB (!decide (x4 = (95 : Int))) (iteB (decide ((48 : Int) ≤ x4)) (f4 x0 x3 (notB (decide (x4 ≤ (57 : Int))))) (f4 x0 x3 true)) (f4 x0 x3 false))) (f4 x0 x3 false))
def p2 (k : Nat) (a1 : T1) : T2 := t2 (p4 k a1)
theorem o2 (k n1 : Nat) (a1 : T1) (h1 : l1 true k n1 = a1) : l2 true k n1 = p2 k a1 := lfo (b := l2 false k n1) (fx4 fun _ _ _ _ => lcR) (by kernel_rfl) (congrArg t2 (o4 k n1 a1 h1))
def t3 : T3 := fun x0 => (iteB (decide ((0 : Int) < ((List.length x0 : Nat) : Int))) (some ((decide (((List.length x0 : Nat) : Int) < (17 : Int))), ())) (some (false, ())))
def p3 (k : Nat) : T3 := t3
theorem o3 (k : Nat) : l3 true k = p3 k := lfo (b := l3 false k) (fx1 fun _ => lcR) (by kernel_rfl) rfl
def t1 (f2 : T2) (f3 : T3) : T1 := fun x0 x3 => (iteB (decide (x3 < ((List.length x0 : Nat) : Int))) (withinR x3 (List.length x0) fun q1 => (iteB (decide ((97 : Int) ≤ (byteAt x0 q1))) (iteB (decide ((byteAt x0 q1) ≤ (122 : Int))) (f2 x0 x3 (byteAt x0 q1) true) (iteB (decide ((65 : Int) ≤ (byteAt x0 q1))) (f2 x0 x3 (byteAt x0 q1) (decide ((byteAt x0 q1) ≤ (90 : Int)))) (f2 x0 x3 (byteAt x0 q1) false))) (iteB (decide ((65 : Int) ≤ (byteAt x0 q1))) (f2 x0 x3 (byteAt x0 q1) (decide ((byteAt x0 q1) ≤ (90 : Int)))) (f2 x0 x3 (byteAt x0 q1) false)))) (f3 x0))
def p1 (k : Nat) : Nat → T1 := iter fun f => t1 (p2 k f) (p3 k)
theorem o1 (k : Nat) : ∀ n, l1 true k n = p1 k n := oL (u := l1 false k) (by kernel_rfl) (fun n1 => (fx2 fun _ _ => lcL)) (fun n1 => by kernel_rfl) (fun n1 f h => (congr (congrArg t1 (o2 k n1 f h)) (o3 k)))
def t0 (f1 : T1) : T0 := fun a => (f1 a.1 (0 : Int))
def p0 (k : Nat) : T0 := t0 (p1 k k)
theorem o0 (k : Nat) : u0 k = p0 k := Eq.trans (by kernel_rfl) (congrArg t0 (o1 k k))
end ref10_Name
def s_ref10_Name (a : D17) : Option D19 := ref10_Name.p0 fuel a
def F_ref10_Name : FSpec cx.toNm := { ps := [.val .str], nres := 1, rt := .bool, rm := .ro, f := s_ref10_Name }
theorem ok_ref10_Name : FnOk Tryd.prog F_ref10_Name 17 := fn_of (F := F_ref10_Name) (hn := ref10_Name.h) (E := ref10_Name.E) cxOk (tysT _ _ _) fs_nil follows Tryd.func17 (by kernel_rfl) (fun a r h => ⟨fuel, (congrFun (ref10_Name.o0 fuel) a).trans ((by kernel_rfl : s_ref10_Name a = F_ref10_Name.f a).trans h)⟩)
namespace ref10_cut
def E : Env cx := { tys := tys, fs := fsOf [] }
abbrev R := Option (D25)
def h : Hint := { vs := [0, 1, 4, 5, 6, 7], ret := ([4], []), nil := [(5, (.own .ro))], cuts := [(4, ([0, 1, 5, 6, 7], []), ([5], [])), (5, ([0, 1, 5, 6, 7], []), ([0, 1, 5, 6, 7], [])), (7, ([0, 1, 5, 6, 7, 24], []), ([0, 1, 5, 6, 7], [])), (9, ([5], []), ([5], []))] }
def W : Pr cx (D25) := ⟨E, h, bodyC Tryd.f14, fin (S := cx) E Tryd.f14.results.toList t5 .ro [] []⟩
abbrev T4 := (List UInt8) → Int → D4 → Int → Int → R
abbrev T2 := (List UInt8) → Int → D4 → Int → Int → Bool → R
abbrev T3 := D4 → R
abbrev T1 := (List UInt8) → Int → D4 → Int → Int → R
abbrev T0 := D35 → R
def u0 (k : Nat) : T0 := fun a => runOf (S := cx) E h k Tryd.f14 [.val .str, .val (.int .u8)] t5 .ro a
abbrev l4 (c : Bool) (k n1 : Nat) : T4 := fun x0 x1 x5 x6 x7 => lfR c W k [1, 1, 1, 0, 1, 0, 0, 1, 1] [n1] ⟨[(0, vS x0), (1, vR (.int .u8) x1), (5, .v t5 (.own .ro) x5), (6, vI x6), (7, vI x7)], [], []⟩
abbrev l2 (c : Bool) (k n1 : Nat) : T2 := fun x0 x1 x5 x6 x7 x24 => lfR c W k [1, 1, 1, 0, 1, 0, 0, 1, 0, 0, 1] [n1] ⟨[(0, vS x0), (1, vR (.int .u8) x1), (5, .v t5 (.own .ro) x5), (6, vI x6), (7, vI x7), (24, vB x24)], [], []⟩
abbrev l3 (c : Bool) (k : Nat) : T3 := fun x5 => lfR c W k [1, 1, 1, 1] [] ⟨[(5, .v t5 (.own .ro) x5)], [], []⟩
abbrev l1 (c : Bool) (k n1 : Nat) : T1 := fun x0 x1 x5 x6 x7 => lfL c W k [1, 1, 1, 0, 1, 0] [] n1 ⟨[(0, vS x0), (1, vR (.int .u8) x1), (5, .v t5 (.own .ro) x5), (6, vI x6), (7, vI x7)], [], []⟩
def t4 (f1 : T1) : T4 := fun x0 x1 x5 x6 x7 => (f1 x0 x1 x5 x6 (w64 (x7 + (1 : Int))))
def p4 (k : Nat) (a1 : T1) : T4 := t4 a1
theorem o4 (k n1 : Nat) (a1 : T1) (h1 : l1 true k n1 = a1) : l4 true k n1 = p4 k a1 := lfo (b := l4 false k n1) (fx5 fun _ _ _ _ _ => lcR) (by kernel_rfl) (congrArg t4 h1)
def t2 (f4 : T4) : T2 := fun x0 x1 x5 x6 x7 x24 => (iteB x24 (mustR (decide (0 ≤ x7)) (mustR (decide (x7 ≤ (((List.length x0) : Nat) : Int))) (mustR (decide (0 ≤ x6)) (mustR (decide (x6 ≤ (((Int.toNat x7) : Nat) : Int))) (mustR (room x5 ([(List.drop (Int.toNat x6) (List.take (Int.toNat x7) x0))] : List (List UInt8))) (f4 x0 x1 (x5 ++ ([(List.drop (Int.toNat x6) (List.take (Int.toNat x7) x0))] : List (List UInt8))) (w64 (x7 + (1 : Int))) x7)))))) (f4 x0 x1 x5 x6 x7))
def p2 (k : Nat) (a1 : T1) : T2 := t2 (p4 k a1)
theorem o2 (k n1 : Nat) (a1 : T1) (h1 : l1 true k n1 = a1) : l2 true k n1 = p2 k a1 := lfo (b := l2 false k n1) (fx6 fun _ _ _ _ _ _ => lcR) (by kernel_rfl) (congrArg t2 (o4 k n1 a1 h1))
def t3 : T3 := fun x5 => (some (x5, ()))
def p3 (k : Nat) : T3 := t3
theorem o3 (k : Nat) : l3 true k = p3 k := lfo (b := l3 false k) (fx1 fun _ => lcR) (by kernel_rfl) rfl
def t1 (f2 : T2) (f3 : T3) : T1 := fun x0 x1 x5 x6 x7 => (iteB (decide (x7 ≤ ((List.length x0 : Nat) : Int))) (iteB (decide (x7 = ((List.length x0 : Nat) : Int))) (f2 x0 x1 x5 x6 x7 true) (withinR x7 (List.length x0) fun q1 => (f2 x0 x1 x5 x6 x7 (decide ((byteAt x0 q1) = x1))))) (f3 x5))
def p1 (k : Nat) : Nat → T1 := iter fun f => t1 (p2 k f) (p3 k)
theorem o1 (k : Nat) : ∀ n, l1 true k n = p1 k n := oL (u := l1 false k) (by kernel_rfl) (fun n1 => (fx5 fun _ _ _ _ _ => lcL)) (fun n1 => by kernel_rfl) (fun n1 f h => (congr (congrArg t1 (o2 k n1 f h)) (o3 k)))
def t0 (f1 : T1) : T0 := fun a => (f1 a.1 a.2.1 ([] : List (List UInt8)) (0 : Int) (0 : Int))
def p0 (k : Nat) : T0 := t0 (p1 k k)
theorem o0 (k : Nat) : u0 k = p0 k := Eq.trans (by kernel_rfl) (congrArg t0 (o1 k k))
end ref10_cut
def s_ref10_cut (a : D35) : Option D25 := ref10_cut.p0 fuel a
def F_ref10_cut : FSpec cx.toNm := { ps := [.val .str, .val (.int .u8)], nres := 1, rt := t5, rm := .ro, f := s_ref10_cut }
theorem ok_ref10_cut : FnOk Tryd.prog F_ref10_cut 14 := fn_of (F := F_ref10_cut) (hn := ref10_cut.h) (E := ref10_cut.E) cxOk (tysT _ _ _) fs_nil follows Tryd.func14 (by kernel_rfl) (fun a r h => ⟨fuel, (congrFun (ref10_cut.o0 fuel) a).trans ((by kernel_rfl : s_ref10_cut a = F_ref10_cut.f a).trans h)⟩)
namespace ref10_words
def E : Env cx := { tys := tys, fs := fsOf [(14, F_ref10_cut)] }
abbrev R := Option (D25)
def h : Hint := { vs := [0, 2, 3, 4, 5], ret := ([2], []), nil := [(4, (.own .ro))], cuts := [(4, ([3, 4, 5], []), ([4], [])), (5, ([3, 4, 5], []), ([3, 4, 5], [])), (8, ([4], []), ([4], []))] }
def W : Pr cx (D25) := ⟨E, h, bodyC Tryd.f15, fin (S := cx) E Tryd.f15.results.toList t5 .ro [] []⟩
abbrev T2 := D4 → D4 → Int → R
abbrev T3 := D4 → R
abbrev T1 := D4 → D4 → Int → R
abbrev T0 := D17 → R
def u0 (k : Nat) : T0 := fun a => runOf (S := cx) E h k Tryd.f15 [.val .str] t5 .ro a
abbrev l2 (c : Bool) (k n1 : Nat) : T2 := fun x3 x4 x5 => lfR c W k [1, 1, 1, 0, 1, 0, 0, 1, 1] [n1] ⟨[(3, vR t5 x3), (4, .v t5 (.own .ro) x4), (5, vI x5)], [], []⟩
abbrev l3 (c : Bool) (k : Nat) : T3 := fun x4 => lfR c W k [1, 1, 1, 1] [] ⟨[(4, .v t5 (.own .ro) x4)], [], []⟩
abbrev l1 (c : Bool) (k n1 : Nat) : T1 := fun x3 x4 x5 => lfL c W k [1, 1, 1, 0, 1, 0] [] n1 ⟨[(3, vR t5 x3), (4, .v t5 (.own .ro) x4), (5, vI x5)], [], []⟩
def t2 (f1 : T1) : T2 := fun x3 x4 x5 => (f1 x3 x4 (w64 (x5 + (1 : Int))))
def p2 (k : Nat) (a1 : T1) : T2 := t2 a1
theorem o2 (k n1 : Nat) (a1 : T1) (h1 : l1 true k n1 = a1) : l2 true k n1 = p2 k a1 := lfo (b := l2 false k n1) (fx3 fun _ _ _ => lcR) (by kernel_rfl) (congrArg t2 h1)
def t3 : T3 := fun x4 => (some (x4, ()))
def p3 (k : Nat) : T3 := t3
theorem o3 (k : Nat) : l3 true k = p3 k := lfo (b := l3 false k) (fx1 fun _ => lcR) (by kernel_rfl) rfl
def t1 (f2 : T2) (f3 : T3) : T1 := fun x3 x4 x5 => (iteB (decide (x5 < ((List.length x3 : Nat) : Int))) (withinR x5 (List.length x3) fun q2 => (iteB (!(decide ((List.getD x3 q2 ([] : List UInt8)) = ([] : List UInt8)))) (withinR x5 (List.length x3) fun q3 => (mustR (room x4 ([(List.getD x3 q3 ([] : List UInt8))] : List (List UInt8))) (f2 x3 (x4 ++ ([(List.getD x3 q3 ([] : List UInt8))] : List (List UInt8))) x5))) (f2 x3 x4 x5))) (f3 x4))
def p1 (k : Nat) : Nat → T1 := iter fun f => t1 (p2 k f) (p3 k)
theorem o1 (k : Nat) : ∀ n, l1 true k n = p1 k n := oL (u := l1 false k) (by kernel_rfl) (fun n1 => (fx3 fun _ _ _ => lcL)) (fun n1 => by kernel_rfl) (fun n1 f h => (congr (congrArg t1 (o2 k n1 f h)) (o3 k)))
def t0 (f1 : T1) : T0 := fun a => (bindR (s_ref10_cut (a.1, ((32 : Int), ()))) fun r1 => (f1 r1.1 ([] : List (List UInt8)) (0 : Int)))
def p0 (k : Nat) : T0 := t0 (p1 k k)
theorem o0 (k : Nat) : u0 k = p0 k := Eq.trans (by kernel_rfl) (congrArg t0 (o1 k k))
end ref10_words
def s_ref10_words (a : D17) : Option D25 := ref10_words.p0 fuel a
def F_ref10_words : FSpec cx.toNm := { ps := [.val .str], nres := 1, rt := t5, rm := .ro, f := s_ref10_words }
theorem ok_ref10_words : FnOk Tryd.prog F_ref10_words 15 := fn_of (F := F_ref10_words) (hn := ref10_words.h) (E := ref10_words.E) cxOk (tysT _ _ _) (fs_cons ok_ref10_cut fs_nil) follows Tryd.func15 (by kernel_rfl) (fun a r h => ⟨fuel, (congrFun (ref10_words.o0 fuel) a).trans ((by kernel_rfl : s_ref10_words a = F_ref10_words.f a).trans h)⟩)
namespace ref10_names
def E : Env cx := { tys := tys, fs := fsOf [(17, F_ref10_Name)] }
abbrev R := Option (D19)
def h : Hint := { vs := [0, 2, 3], ret := ([2], []), cuts := [(2, ([0, 3], []), ([], [])), (6, ([], []), ([], []))] }
def W : Pr cx (D19) := ⟨E, h, bodyC Tryd.f18, fin (S := cx) E Tryd.f18.results.toList .bool .ro [] []⟩
abbrev T2 := R
abbrev T1 := D4 → Int → R
abbrev T0 := D25 → R
def u0 (k : Nat) : T0 := fun a => runOf (S := cx) E h k Tryd.f18 [.val t5] .bool .ro a
abbrev l2 (c : Bool) (k : Nat) : T2 := lfR c W k [1, 1] [] ⟨[], [], []⟩
abbrev l1 (c : Bool) (k n1 : Nat) : T1 := fun x0 x3 => lfL c W k [1, 0, 1, 0] [] n1 ⟨[(0, vR t5 x0), (3, vI x3)], [], []⟩
def t2 : T2 := (some (true, ()))
def p2 (k : Nat) : T2 := t2
theorem o2 (k : Nat) : l2 true k = p2 k := lfo (b := l2 false k) lcR (by kernel_rfl) rfl
def t1 (f1 : T1) (f2 : T2) : T1 := fun x0 x3 => (iteB (decide (x3 < ((List.length x0 : Nat) : Int))) (withinR x3 (List.length x0) fun q1 => (bindR (s_ref10_Name ((List.getD x0 q1 ([] : List UInt8)), ())) fun r2 => (iteB (notB r2.1) (some (false, ())) (f1 x0 (w64 (x3 + (1 : Int))))))) f2)
def p1 (k : Nat) : Nat → T1 := iter fun f => t1 f (p2 k)
theorem o1 (k : Nat) : ∀ n, l1 true k n = p1 k n := oL (u := l1 false k) (by kernel_rfl) (fun n1 => (fx2 fun _ _ => lcL)) (fun n1 => by kernel_rfl) (fun n1 f h => (congr (congrArg t1 h) (o2 k)))
def t0 (f1 : T1) : T0 := fun a => (f1 a.1 (0 : Int))
def p0 (k : Nat) : T0 := t0 (p1 k k)
theorem o0 (k : Nat) : u0 k = p0 k := Eq.trans (by kernel_rfl) (congrArg t0 (o1 k k))
end ref10_names
def s_ref10_names (a : D25) : Option D19 := ref10_names.p0 fuel a
def F_ref10_names : FSpec cx.toNm := { ps := [.val t5], nres := 1, rt := .bool, rm := .ro, f := s_ref10_names }
theorem ok_ref10_names : FnOk Tryd.prog F_ref10_names 18 := fn_of (F := F_ref10_names) (hn := ref10_names.h) (E := ref10_names.E) cxOk (tysT _ _ _) (fs_cons ok_ref10_Name fs_nil) follows Tryd.func18 (by kernel_rfl) (fun a r h => ⟨fuel, (congrFun (ref10_names.o0 fuel) a).trans ((by kernel_rfl : s_ref10_names a = F_ref10_names.f a).trans h)⟩)
namespace ref10_Arity
def E : Env cx := { tys := tys, fs := fsOf [] }
abbrev R := Option (D36)
def h : Hint := { vs := [0, 2, 3], ret := ([2, 3], []) }
def W : Pr cx (D36) := ⟨E, h, bodyC Tryd.f19, fin (S := cx) E Tryd.f19.results.toList t23 .ro [] []⟩
abbrev T0 := D26 → R
def u0 (k : Nat) : T0 := fun a => runOf (S := cx) E h k Tryd.f19 [.val (.int .u8)] t23 .ro a
def t0 : T0 := fun a => (iteB (decide (a.1 = (1 : Int))) (some (((2 : Int), (3 : Int)), ())) (iteB (decide (a.1 = (2 : Int))) (some (((4 : Int), (4 : Int)), ())) (iteB (decide (a.1 = (3 : Int))) (some (((2 : Int), (2 : Int)), ())) (some (((1 : Int), (0 : Int)), ())))))
def p0 (k : Nat) : T0 := t0
theorem o0 (k : Nat) : u0 k = p0 k := Eq.trans (by kernel_rfl) rfl
end ref10_Arity
def s_ref10_Arity (a : D26) : Option D36 := ref10_Arity.p0 fuel a
def F_ref10_Arity : FSpec cx.toNm := { ps := [.val (.int .u8)], nres := 2, rt := t23, rm := .ro, f := s_ref10_Arity }
theorem ok_ref10_Arity : FnOk Tryd.prog F_ref10_Arity 19 := fn_of (F := F_ref10_Arity) (hn := ref10_Arity.h) (E := ref10_Arity.E) cxOk (tysT _ _ _) fs_nil follows Tryd.func19 (by kernel_rfl) (fun a r h => ⟨fuel, (congrFun (ref10_Arity.o0 fuel) a).trans ((by kernel_rfl : s_ref10_Arity a = F_ref10_Arity.f a).trans h)⟩)
namespace ref10_behind
def E : Env cx := { tys := tys, fs := fsOf [] }
abbrev R := Option (D17)
def h : Hint := { vs := [0, 2, 3, 4], ret := ([2], []), cuts := [(3, ([0, 3, 4], []), ([0, 3], [])), (4, ([0, 3, 4], []), ([0, 3, 4], [])), (5, ([0, 3, 4], []), ([0, 3, 4], [])), (6, ([0, 3, 4], []), ([0, 3, 4], [])), (7, ([0, 3, 4], []), ([0, 3, 4], [])), (8, ([0, 3, 4], []), ([0, 3, 4], [])), (9, ([0, 3], []), ([0, 3], [])), (1000002, ([0, 3, 4, 18], []), ([0, 3, 4], [])), (1000004, ([0, 3, 4, 30], []), ([0, 3, 4], []))] }
def W : Pr cx (D17) := ⟨E, h, bodyC Tryd.f16, fin (S := cx) E Tryd.f16.results.toList .str .ro [] []⟩
abbrev T5 := (List UInt8) → Int → Int → R
abbrev T9 := (List UInt8) → Int → Int → R
abbrev T10 := (List UInt8) → Int → Int → R
abbrev T8 := (List UInt8) → Int → Int → Bool → R
abbrev T7 := (List UInt8) → Int → Int → R
abbrev T6 := (List UInt8) → Int → Int → R
abbrev T4 := (List UInt8) → Int → Int → Bool → R
abbrev T2 := (List UInt8) → Int → Int → R
abbrev T3 := (List UInt8) → Int → R
abbrev T1 := (List UInt8) → Int → Int → R
abbrev T0 := D17 → R
def u0 (k : Nat) : T0 := fun a => runOf (S := cx) E h k Tryd.f16 [.val .str] .str .ro a
abbrev l5 (c : Bool) (k n1 n2 : Nat) : T5 := fun x0 x3 x4 => lfR c W k [1, 1, 0, 1, 0, 0, 1, 0, 0, 0, 0, 0, 1] [n1, n2] ⟨[(0, vS x0), (3, vI x3), (4, vI x4)], [], []⟩
abbrev l9 (c : Bool) (k n1 n7 : Nat) : T9 := fun x0 x3 x4 => lfR c W k [1, 1, 0, 1, 0, 0, 1, 0, 0, 1, 0, 0, 1] [n1, n7] ⟨[(0, vS x0), (3, vI x3), (4, vI x4)], [], []⟩
abbrev l10 (c : Bool) (k n1 : Nat) : T10 := fun x0 x3 x4 => lfR c W k [1, 1, 0, 1, 0, 0, 1, 1] [n1] ⟨[(0, vS x0), (3, vI x3), (4, vI x4)], [], []⟩
abbrev l8 (c : Bool) (k n1 n7 : Nat) : T8 := fun x0 x3 x4 x30 => lfR c W k [1, 1, 0, 1, 0, 0, 1, 0, 0, 1, 0, 0, 0, 1] [n1, n7] ⟨[(0, vS x0), (3, vI x3), (4, vI x4), (30, vB x30)], [], []⟩
abbrev l7 (c : Bool) (k n1 n7 : Nat) : T7 := fun x0 x3 x4 => lfL c W k [1, 1, 0, 1, 0, 0, 1, 0, 0, 1, 0] [n1] n7 ⟨[(0, vS x0), (3, vI x3), (4, vI x4)], [], []⟩
abbrev l6 (c : Bool) (k n1 : Nat) : T6 := fun x0 x3 x4 => lfR c W k [1, 1, 0, 1, 0, 0, 1, 0, 0, 1] [n1] ⟨[(0, vS x0), (3, vI x3), (4, vI x4)], [], []⟩
abbrev l4 (c : Bool) (k n1 n2 : Nat) : T4 := fun x0 x3 x4 x18 => lfR c W k [1, 1, 0, 1, 0, 0, 1, 0, 0, 0, 0, 0, 0, 1] [n1, n2] ⟨[(0, vS x0), (3, vI x3), (4, vI x4), (18, vB x18)], [], []⟩
abbrev l2 (c : Bool) (k n1 n2 : Nat) : T2 := fun x0 x3 x4 => lfL c W k [1, 1, 0, 1, 0, 0, 1, 0, 0, 0, 0] [n1] n2 ⟨[(0, vS x0), (3, vI x3), (4, vI x4)], [], []⟩
abbrev l3 (c : Bool) (k : Nat) : T3 := fun x0 x3 => lfR c W k [1, 1, 1] [] ⟨[(0, vS x0), (3, vI x3)], [], []⟩
abbrev l1 (c : Bool) (k n1 : Nat) : T1 := fun x0 x3 x4 => lfL c W k [1, 1, 0, 1, 0] [] n1 ⟨[(0, vS x0), (3, vI x3), (4, vI x4)], [], []⟩
def t5 (f2 : T2) : T5 := fun x0 x3 x4 => (f2 x0 (w64 (x3 + (1 : Int))) x4)
def p5 (k : Nat) (a1 : T1) (a2 : T2) : T5 := t5 a2
theorem o5 (k n1 n2 : Nat) (a1 : T1) (a2 : T2) (h1 : l1 true k n1 = a1) (h2 : l2 true k n1 n2 = a2) : l5 true k n1 n2 = p5 k a1 a2 := lfo (b := l5 false k n1 n2) (fx3 fun _ _ _ => lcR) (by kernel_rfl) (congrArg t5 h2)
def t9 (f7 : T7) : T9 := fun x0 x3 x4 => (f7 x0 (w64 (x3 + (1 : Int))) x4)
def p9 (k : Nat) (a1 : T1) (a7 : T7) : T9 := t9 a7
theorem o9 (k n1 n7 : Nat) (a1 : T1) (a7 : T7) (h1 : l1 true k n1 = a1) (h7 : l7 true k n1 n7 = a7) : l9 true k n1 n7 = p9 k a1 a7 := lfo (b := l9 false k n1 n7) (fx3 fun _ _ _ => lcR) (by kernel_rfl) (congrArg t9 h7)
def t10 (f1 : T1) : T10 := fun x0 x3 x4 => (f1 x0 x3 (w64 (x4 + (1 : Int))))
def p10 (k : Nat) (a1 : T1) : T10 := t10 a1
theorem o10 (k n1 : Nat) (a1 : T1) (h1 : l1 true k n1 = a1) : l10 true k n1 = p10 k a1 := lfo (b := l10 false k n1) (fx3 fun _ _ _ => lcR) (by kernel_rfl) (congrArg t10 h1)
def t8 (f9 : T9) (f10 : T10) : T8 := fun x0 x3 x4 x30 => (iteB x30 (f9 x0 x3 x4) (f10 x0 x3 x4))
def p8 (k : Nat) (a1 : T1) (a7 : T7) : T8 := t8 (p9 k a1 a7) (p10 k a1)
theorem o8 (k n1 n7 : Nat) (a1 : T1) (a7 : T7) (h1 : l1 true k n1 = a1) (h7 : l7 true k n1 n7 = a7) : l8 true k n1 n7 = p8 k a1 a7 := lfo (b := l8 false k n1 n7) (fx4 fun _ _ _ _ => lcR) (by kernel_rfl) (by have h := (congr (congrArg t8 (o9 k n1 n7 a1 a7 h1 h7)) (o10 k n1 a1 h1)); exact h)
def t7 (f8 : T8) : T7 := fun x0 x3 x4 => (iteB (decide (x3 < ((List.length x0 : Nat) : Int))) (withinR x3 (List.length x0) fun q2 => (f8 x0 x3 x4 (!decide ((byteAt x0 q2) = (32 : Int))))) (f8 x0 x3 x4 false))
def p7 (k : Nat) (a1 : T1) : Nat → T7 := iter fun f => t7 (p8 k a1 f)
theorem o7 (k n1 : Nat) (a1 : T1) (h1 : l1 true k n1 = a1) : ∀ n, l7 true k n1 n = p7 k a1 n := oL (u := l7 false k n1) (by kernel_rfl) (fun n7 => (fx3 fun _ _ _ => lcL)) (fun n7 => by kernel_rfl) (fun n7 f h => (congrArg t7 (o8 k n1 n7 a1 f h1 h)))
def t6 (f7 : T7) : T6 := fun x0 x3 x4 => (f7 x0 x3 x4)
def p6 (k : Nat) (a1 : T1) : T6 := t6 (p7 k a1 k)
theorem o6 (k n1 : Nat) (a1 : T1) (h1 : l1 true k n1 = a1) : l6 true k n1 = p6 k a1 := lfo (b := l6 false k n1) (fx3 fun _ _ _ => lcR) (by kernel_rfl) (congrArg t6 (o7 k n1 a1 h1 k))
def t4 (f5 : T5) (f6 : T6) : T4 := fun x0 x3 x4 x18 => (iteB x18 (f5 x0 x3 x4) (f6 x0 x3 x4))
def p4 (k : Nat) (a1 : T1) (a2 : T2) : T4 := t4 (p5 k a1 a2) (p6 k a1)
theorem o4 (k n1 n2 : Nat) (a1 : T1) (a2 : T2) (h1 : l1 true k n1 = a1) (h2 : l2 true k n1 n2 = a2) : l4 true k n1 n2 = p4 k a1 a2 := lfo (b := l4 false k n1 n2) (fx4 fun _ _ _ _ => lcR) (by kernel_rfl) (by have h := (congr (congrArg t4 (o5 k n1 n2 a1 a2 h1 h2)) (o6 k n1 a1 h1)); exact h)
def t2 (f4 : T4) : T2 := fun x0 x3 x4 => (iteB (decide (x3 < ((List.length x0 : Nat) : Int))) (withinR x3 (List.length x0) fun q1 => (f4 x0 x3 x4 (decide ((byteAt x0 q1) = (32 : Int))))) (f4 x0 x3 x4 false))
def p2 (k : Nat) (a1 : T1) : Nat → T2 := iter fun f => t2 (p4 k a1 f)
theorem o2 (k n1 : Nat) (a1 : T1) (h1 : l1 true k n1 = a1) : ∀ n, l2 true k n1 n = p2 k a1 n := oL (u := l2 false k n1) (by kernel_rfl) (fun n2 => (fx3 fun _ _ _ => lcL)) (fun n2 => by kernel_rfl) (fun n2 f h => (congrArg t2 (o4 k n1 n2 a1 f h1 h)))
def t3 : T3 := fun x0 x3 => (iteB (decide (x3 = ((List.length x0 : Nat) : Int))) (some (([] : List UInt8), ())) (mustR (decide (0 ≤ (w64 (x3 + (1 : Int))))) (mustR (decide ((w64 (x3 + (1 : Int))) ≤ (((List.length x0) : Nat) : Int))) (some ((List.drop (Int.toNat (w64 (x3 + (1 : Int)))) (List.take (List.length x0) x0)), ())))))
def p3 (k : Nat) : T3 := t3
theorem o3 (k : Nat) : l3 true k = p3 k := lfo (b := l3 false k) (fx2 fun _ _ => lcR) (by kernel_rfl) rfl
def t1 (f2 : T2) (f3 : T3) : T1 := fun x0 x3 x4 => (iteB (decide (x4 < (2 : Int))) (f2 x0 x3 x4) (f3 x0 x3))
def p1 (k : Nat) : Nat → T1 := iter fun f => t1 (p2 k f k) (p3 k)
theorem o1 (k : Nat) : ∀ n, l1 true k n = p1 k n := oL (u := l1 false k) (by kernel_rfl) (fun n1 => (fx3 fun _ _ _ => lcL)) (fun n1 => by kernel_rfl) (fun n1 f h => (congr (congrArg t1 (o2 k n1 f h k)) (o3 k)))
def t0 (f1 : T1) : T0 := fun a => (f1 a.1 (0 : Int) (0 : Int))
def p0 (k : Nat) : T0 := t0 (p1 k k)
theorem o0 (k : Nat) : u0 k = p0 k := Eq.trans (by kernel_rfl) (congrArg t0 (o1 k k))
end ref10_behind
def s_ref10_behind (a : D17) : Option D17 := ref10_behind.p0 fuel a
def F_ref10_behind : FSpec cx.toNm := { ps := [.val .str], nres := 1, rt := .str, rm := .ro, f := s_ref10_behind }
theorem ok_ref10_behind : FnOk Tryd.prog F_ref10_behind 16 := fn_of (F := F_ref10_behind) (hn := ref10_behind.h) (E := ref10_behind.E) cxOk (tysT _ _ _) fs_nil follows Tryd.func16 (by kernel_rfl) (fun a r h => ⟨fuel, (congrFun (ref10_behind.o0 fuel) a).trans ((by kernel_rfl : s_ref10_behind a = F_ref10_behind.f a).trans h)⟩)
namespace ref10_Read
def E : Env cx := { tys := tys, fs := fsOf [(13, F_ref01_Whole), (14, F_ref10_cut), (15, F_ref10_words), (16, F_ref10_behind), (17, F_ref10_Name), (18, F_ref10_names), (19, F_ref10_Arity)] }
abbrev R := Option (D30)
def h : Hint := { vs := [0, 2, 3, 4, 5, 6, 7, 8, 9, 10, 11, 12, 13, 14, 15, 50, 51, 222], ret := ([2, 3], [2, 4]), nil := [(4, m_2), (24, m_2)], cuts := [(9, ([2, 4, 5, 6, 7], [2, 4]), ([2, 4], [2, 4])), (10, ([2, 4, 5, 6, 7], [2, 4]), ([2, 4, 5, 6, 7], [2, 4])), (13, ([2, 4, 5, 6, 7, 8], [2, 4]), ([2, 4, 5, 6, 7], [2, 4])), (18, ([2, 4, 5, 6, 7, 8, 9, 50, 51], [2, 4]), ([2, 4, 5, 6, 7, 9], [2, 4])), (20, ([2, 4, 5, 6, 7, 8, 9, 10, 65], [2, 4]), ([2, 4, 5, 6, 7, 9], [2, 4])), (28, ([2, 4, 5, 6, 7, 8, 114], [2, 4]), ([2, 4, 5, 6, 7, 8], [2, 4])), (29, ([2, 4, 5, 6, 7, 8], [2, 4]), ([2, 4, 5, 6, 7, 9], [2, 4])), (31, ([2, 4, 5, 6, 7, 8, 9, 11], [2, 4]), ([2, 4, 5, 6, 7, 8, 9], [2, 4])), (32, ([2, 4, 5, 6, 7, 8, 9, 11], [2, 4]), ([2, 4, 5, 6, 7, 8, 9, 11], [2, 4])), (35, ([2, 4, 5, 6, 7, 8, 9], [2, 4]), ([2, 4, 5, 6, 7, 9], [2, 4])), (36, ([2, 4, 5, 6, 7, 8, 9, 12], [2, 4]), ([2, 4, 5, 6, 7, 9], [2, 4])), (38, ([2, 4, 5, 6, 7, 8, 9, 12], [2, 4]), ([2, 4, 5, 6, 7, 8, 9, 12], [2, 4])), (51, ([2, 4, 5, 6, 7, 8, 9, 190], [2, 4]), ([2, 4, 5, 6, 7, 9], [2, 4])), (53, ([2, 4, 5, 6, 7, 8, 9, 201], [2, 4]), ([2, 4, 5, 6, 7, 9], [2, 4])), (55, ([2, 4, 5, 6, 7, 8, 9, 210], [2, 4]), ([2, 4, 5, 6, 7, 9], [2, 4])), (60, ([2, 4, 5, 6, 7, 8, 9, 222], [2, 4]), ([2, 4, 5, 6, 7, 9], [2, 4])), (63, ([2, 4, 5, 6, 7, 8, 9, 13], [2, 4]), ([2, 4, 5, 6, 7, 9], [2, 4])), (65, ([2, 4, 5, 6, 7, 8, 9, 13], [2, 4]), ([2, 4, 5, 6, 7, 9], [2, 4])), (67, ([2, 4, 5, 6, 7, 8, 9, 13, 250], [2, 4]), ([2, 4, 5, 6, 7, 9], [2, 4])), (73, ([2, 4, 5, 6, 7, 9], [2, 4]), ([2, 4, 5, 6, 7], [2, 4])), (75, ([2, 4], [2, 4]), ([2, 4], [2, 4])), (1000005, ([2, 4, 5, 6, 7, 8, 9, 12, 141], [2, 4]), ([2, 4, 5, 6, 7, 8, 9, 12], [2, 4]))] }
def W : Pr cx (D30) := ⟨E, h, bodyC Tryd.f7, fin (S := cx) E Tryd.f7.results.toList t20 .ro [] []⟩
abbrev T2 := Bool → D4 → Int → D11 → D11 → R
abbrev T8 := Bool → D4 → Int → Int → D11 → D11 → R
abbrev T6 := Bool → D4 → Int → D4 → Int → (List UInt8) → Bool → D11 → D11 → R
abbrev T13 := Bool → D4 → Int → D4 → Int → Int → D11 → D11 → R
abbrev T17 := Bool → D4 → Int → D4 → Int → Int → D11 → D11 → R
abbrev T16 := Bool → D4 → Int → D4 → Int → Int → Bool → D11 → D11 → R
abbrev T15 := Bool → D4 → Int → D4 → Int → Int → D11 → D11 → R
abbrev T14 := Bool → D4 → Int → D4 → Int → D11 → D11 → R
abbrev T12 := Bool → D4 → Int → D4 → Int → Int → D11 → D11 → R
abbrev T11 := Bool → D4 → Int → D4 → D11 → D11 → R
abbrev T7 := Bool → D4 → Int → D4 → Bool → D11 → D11 → R
abbrev T19 := Bool → D4 → Int → D4 → Int → Bool → D11 → D11 → R
abbrev T18 := Bool → D4 → Int → D4 → Int → Bool → D11 → D11 → R
abbrev T9 := Bool → D4 → Int → D4 → Int → Bool → D11 → D11 → R
abbrev T22 := Bool → D4 → Int → D4 → Int → Int → Bool → D11 → D11 → R
abbrev T21 := Bool → D4 → Int → D4 → Int → Int → D11 → D11 → R
abbrev T20 := Bool → D4 → Int → D4 → Int → Int → D11 → D11 → R
abbrev T10 := Bool → D4 → Int → D4 → Int → Bool → D11 → D11 → R
abbrev T5 := Bool → D4 → Int → D4 → Int → (List UInt8) → Bool → D11 → D11 → R
abbrev T3 := Bool → D4 → Int → D4 → D11 → D11 → R
abbrev T4 := D11 → D11 → R
abbrev T1 := Bool → D4 → Int → D11 → D11 → R
abbrev T0 := D17 → R
def u0 (k : Nat) : T0 := fun a => runOf (S := cx) E h k Tryd.f7 [.val .str] t20 .ro a
abbrev l2 (c : Bool) (k n1 : Nat) : T2 := fun x5 x6 x7 m2 m4 => lfR c W k [1, 1, 1, 1, 1, 1, 0, 1, 0, 0, 1, 1] [n1] ⟨[(2, vA 2), (4, vA 4), (5, vB x5), (6, vR t5 x6), (7, vI x7)], [], [(2, ⟨t15, .ro, m2⟩), (4, ⟨t15, m_2, m4⟩)]⟩
abbrev l8 (c : Bool) (k n1 : Nat) : T8 := fun x5 x6 x7 x9 m2 m4 => lfR c W k [1, 1, 1, 1, 1, 1, 0, 1, 0, 0, 1, 0, 0, 1, 1, 1, 1] [n1] ⟨[(2, vA 2), (4, vA 4), (5, vB x5), (6, vR t5 x6), (7, vI x7), (9, vI x9)], [], [(2, ⟨t15, .ro, m2⟩), (4, ⟨t15, m_2, m4⟩)]⟩
abbrev l6 (c : Bool) (k n1 : Nat) : T6 := fun x5 x6 x7 x8 x9 x10 x65 m2 m4 => lfR c W k [1, 1, 1, 1, 1, 1, 0, 1, 0, 0, 1, 0, 0, 1, 1, 1, 0, 1, 0, 1, 0, 1, 1] [n1] ⟨[(2, vA 2), (4, vA 4), (5, vB x5), (6, vR t5 x6), (7, vI x7), (8, vR t5 x8), (9, vI x9), (10, vS x10), (65, vB x65)], [], [(2, ⟨t15, .ro, m2⟩), (4, ⟨t15, m_2, m4⟩)]⟩
abbrev l13 (c : Bool) (k n1 n12 : Nat) : T13 := fun x5 x6 x7 x8 x9 x11 m2 m4 => lfR c W k [1, 1, 1, 1, 1, 1, 0, 1, 0, 0, 1, 0, 0, 1, 1, 1, 0, 1, 0, 1, 1, 1, 0, 1, 1, 0, 1, 0, 0, 1, 1] [n1, n12] ⟨[(2, vA 2), (4, vA 4), (5, vB x5), (6, vR t5 x6), (7, vI x7), (8, vR t5 x8), (9, vI x9), (11, vI x11)], [], [(2, ⟨t15, .ro, m2⟩), (4, ⟨t15, m_2, m4⟩)]⟩
abbrev l17 (c : Bool) (k n1 n15 : Nat) : T17 := fun x5 x6 x7 x8 x9 x12 m2 m4 => lfR c W k [1, 1, 1, 1, 1, 1, 0, 1, 0, 0, 1, 0, 0, 1, 1, 1, 0, 1, 0, 1, 1, 1, 0, 1, 1, 1, 1, 0, 0, 1] [n1, n15] ⟨[(2, vA 2), (4, vA 4), (5, vB x5), (6, vR t5 x6), (7, vI x7), (8, vR t5 x8), (9, vI x9), (12, vI x12)], [], [(2, ⟨t15, .ro, m2⟩), (4, ⟨t15, m_2, m4⟩)]⟩
abbrev l16 (c : Bool) (k n1 n15 : Nat) : T16 := fun x5 x6 x7 x8 x9 x12 x141 m2 m4 => lfR c W k [1, 1, 1, 1, 1, 1, 0, 1, 0, 0, 1, 0, 0, 1, 1, 1, 0, 1, 0, 1, 1, 1, 0, 1, 1, 1, 1, 0, 0, 0, 1] [n1, n15] ⟨[(2, vA 2), (4, vA 4), (5, vB x5), (6, vR t5 x6), (7, vI x7), (8, vR t5 x8), (9, vI x9), (12, vI x12), (141, vB x141)], [], [(2, ⟨t15, .ro, m2⟩), (4, ⟨t15, m_2, m4⟩)]⟩
abbrev l15 (c : Bool) (k n1 n15 : Nat) : T15 := fun x5 x6 x7 x8 x9 x12 m2 m4 => lfL c W k [1, 1, 1, 1, 1, 1, 0, 1, 0, 0, 1, 0, 0, 1, 1, 1, 0, 1, 0, 1, 1, 1, 0, 1, 1, 1, 1, 0] [n1] n15 ⟨[(2, vA 2), (4, vA 4), (5, vB x5), (6, vR t5 x6), (7, vI x7), (8, vR t5 x8), (9, vI x9), (12, vI x12)], [], [(2, ⟨t15, .ro, m2⟩), (4, ⟨t15, m_2, m4⟩)]⟩
abbrev l14 (c : Bool) (k n1 : Nat) : T14 := fun x5 x6 x7 x8 x9 m2 m4 => lfR c W k [1, 1, 1, 1, 1, 1, 0, 1, 0, 0, 1, 0, 0, 1, 1, 1, 0, 1, 0, 1, 1, 1, 0, 1, 1, 1] [n1] ⟨[(2, vA 2), (4, vA 4), (5, vB x5), (6, vR t5 x6), (7, vI x7), (8, vR t5 x8), (9, vI x9)], [], [(2, ⟨t15, .ro, m2⟩), (4, ⟨t15, m_2, m4⟩)]⟩
abbrev l12 (c : Bool) (k n1 n12 : Nat) : T12 := fun x5 x6 x7 x8 x9 x11 m2 m4 => lfL c W k [1, 1, 1, 1, 1, 1, 0, 1, 0, 0, 1, 0, 0, 1, 1, 1, 0, 1, 0, 1, 1, 1, 0, 1, 1, 0, 1, 0] [n1] n12 ⟨[(2, vA 2), (4, vA 4), (5, vB x5), (6, vR t5 x6), (7, vI x7), (8, vR t5 x8), (9, vI x9), (11, vI x11)], [], [(2, ⟨t15, .ro, m2⟩), (4, ⟨t15, m_2, m4⟩)]⟩
abbrev l11 (c : Bool) (k n1 : Nat) : T11 := fun x5 x6 x7 x8 m2 m4 => lfR c W k [1, 1, 1, 1, 1, 1, 0, 1, 0, 0, 1, 0, 0, 1, 1, 1, 0, 1, 0, 1, 1, 1, 0, 1] [n1] ⟨[(2, vA 2), (4, vA 4), (5, vB x5), (6, vR t5 x6), (7, vI x7), (8, vR t5 x8)], [], [(2, ⟨t15, .ro, m2⟩), (4, ⟨t15, m_2, m4⟩)]⟩
abbrev l7 (c : Bool) (k n1 : Nat) : T7 := fun x5 x6 x7 x8 x114 m2 m4 => lfR c W k [1, 1, 1, 1, 1, 1, 0, 1, 0, 0, 1, 0, 0, 1, 1, 1, 0, 1, 0, 1, 1, 1, 0, 0, 1] [n1] ⟨[(2, vA 2), (4, vA 4), (5, vB x5), (6, vR t5 x6), (7, vI x7), (8, vR t5 x8), (114, vB x114)], [], [(2, ⟨t15, .ro, m2⟩), (4, ⟨t15, m_2, m4⟩)]⟩
abbrev l19 (c : Bool) (k n1 : Nat) : T19 := fun x5 x6 x7 x8 x9 x210 m2 m4 => lfR c W k [1, 1, 1, 1, 1, 1, 0, 1, 0, 0, 1, 0, 0, 1, 1, 1, 0, 1, 0, 1, 1, 1, 1, 1, 1, 1, 0, 1, 1, 1, 1, 1] [n1] ⟨[(2, vA 2), (4, vA 4), (5, vB x5), (6, vR t5 x6), (7, vI x7), (8, vR t5 x8), (9, vI x9), (210, vB x210)], [], [(2, ⟨t15, .ro, m2⟩), (4, ⟨t15, m_2, m4⟩)]⟩
abbrev l18 (c : Bool) (k n1 : Nat) : T18 := fun x5 x6 x7 x8 x9 x201 m2 m4 => lfR c W k [1, 1, 1, 1, 1, 1, 0, 1, 0, 0, 1, 0, 0, 1, 1, 1, 0, 1, 0, 1, 1, 1, 1, 1, 1, 1, 0, 1, 1, 1] [n1] ⟨[(2, vA 2), (4, vA 4), (5, vB x5), (6, vR t5 x6), (7, vI x7), (8, vR t5 x8), (9, vI x9), (201, vB x201)], [], [(2, ⟨t15, .ro, m2⟩), (4, ⟨t15, m_2, m4⟩)]⟩
abbrev l9 (c : Bool) (k n1 : Nat) : T9 := fun x5 x6 x7 x8 x9 x190 m2 m4 => lfR c W k [1, 1, 1, 1, 1, 1, 0, 1, 0, 0, 1, 0, 0, 1, 1, 1, 0, 1, 0, 1, 1, 1, 1, 1, 1, 1, 0, 1] [n1] ⟨[(2, vA 2), (4, vA 4), (5, vB x5), (6, vR t5 x6), (7, vI x7), (8, vR t5 x8), (9, vI x9), (190, vB x190)], [], [(2, ⟨t15, .ro, m2⟩), (4, ⟨t15, m_2, m4⟩)]⟩
abbrev l22 (c : Bool) (k n1 : Nat) : T22 := fun x5 x6 x7 x8 x9 x13 x250 m2 m4 => lfR c W k [1, 1, 1, 1, 1, 1, 0, 1, 0, 0, 1, 0, 0, 1, 1, 1, 0, 1, 0, 1, 1, 1, 1, 1, 1, 1, 1, 1, 0, 1, 1, 1, 1, 1] [n1] ⟨[(2, vA 2), (4, vA 4), (5, vB x5), (6, vR t5 x6), (7, vI x7), (8, vR t5 x8), (9, vI x9), (13, vR (.int .u8) x13), (250, vB x250)], [], [(2, ⟨t15, .ro, m2⟩), (4, ⟨t15, m_2, m4⟩)]⟩
abbrev l21 (c : Bool) (k n1 : Nat) : T21 := fun x5 x6 x7 x8 x9 x13 m2 m4 => lfR c W k [1, 1, 1, 1, 1, 1, 0, 1, 0, 0, 1, 0, 0, 1, 1, 1, 0, 1, 0, 1, 1, 1, 1, 1, 1, 1, 1, 1, 0, 1, 1, 1] [n1] ⟨[(2, vA 2), (4, vA 4), (5, vB x5), (6, vR t5 x6), (7, vI x7), (8, vR t5 x8), (9, vI x9), (13, vR (.int .u8) x13)], [], [(2, ⟨t15, .ro, m2⟩), (4, ⟨t15, m_2, m4⟩)]⟩
abbrev l20 (c : Bool) (k n1 : Nat) : T20 := fun x5 x6 x7 x8 x9 x13 m2 m4 => lfR c W k [1, 1, 1, 1, 1, 1, 0, 1, 0, 0, 1, 0, 0, 1, 1, 1, 0, 1, 0, 1, 1, 1, 1, 1, 1, 1, 1, 1, 0, 1, 1] [n1] ⟨[(2, vA 2), (4, vA 4), (5, vB x5), (6, vR t5 x6), (7, vI x7), (8, vR t5 x8), (9, vI x9), (13, vR (.int .u8) x13)], [], [(2, ⟨t15, .ro, m2⟩), (4, ⟨t15, m_2, m4⟩)]⟩
abbrev l10 (c : Bool) (k n1 : Nat) : T10 := fun x5 x6 x7 x8 x9 x222 m2 m4 => lfR c W k [1, 1, 1, 1, 1, 1, 0, 1, 0, 0, 1, 0, 0, 1, 1, 1, 0, 1, 0, 1, 1, 1, 1, 1, 1, 1, 1, 1] [n1] ⟨[(2, vA 2), (4, vA 4), (5, vB x5), (6, vR t5 x6), (7, vI x7), (8, vR t5 x8), (9, vI x9), (222, vB x222)], [], [(2, ⟨t15, .ro, m2⟩), (4, ⟨t15, m_2, m4⟩)]⟩
abbrev l5 (c : Bool) (k n1 : Nat) : T5 := fun x5 x6 x7 x8 x9 x50 x51 m2 m4 => lfR c W k [1, 1, 1, 1, 1, 1, 0, 1, 0, 0, 1, 0, 0, 1, 1, 1, 0, 1, 0, 1] [n1] ⟨[(2, vA 2), (4, vA 4), (5, vB x5), (6, vR t5 x6), (7, vI x7), (8, vR t5 x8), (9, vI x9), (50, vS x50), (51, vB x51)], [], [(2, ⟨t15, .ro, m2⟩), (4, ⟨t15, m_2, m4⟩)]⟩
abbrev l3 (c : Bool) (k n1 : Nat) : T3 := fun x5 x6 x7 x8 m2 m4 => lfR c W k [1, 1, 1, 1, 1, 1, 0, 1, 0, 0, 1, 0, 0, 1, 1] [n1] ⟨[(2, vA 2), (4, vA 4), (5, vB x5), (6, vR t5 x6), (7, vI x7), (8, vR t5 x8)], [], [(2, ⟨t15, .ro, m2⟩), (4, ⟨t15, m_2, m4⟩)]⟩
abbrev l4 (c : Bool) (k : Nat) : T4 := fun m2 m4 => lfR c W k [1, 1, 1, 1, 1, 1, 1] [] ⟨[(2, vA 2), (4, vA 4)], [], [(2, ⟨t15, .ro, m2⟩), (4, ⟨t15, m_2, m4⟩)]⟩
abbrev l1 (c : Bool) (k n1 : Nat) : T1 := fun x5 x6 x7 m2 m4 => lfL c W k [1, 1, 1, 1, 1, 1, 0, 1, 0] [] n1 ⟨[(2, vA 2), (4, vA 4), (5, vB x5), (6, vR t5 x6), (7, vI x7)], [], [(2, ⟨t15, .ro, m2⟩), (4, ⟨t15, m_2, m4⟩)]⟩
def t2 (f1 : T1) : T2 := fun x5 x6 x7 m2 m4 => (f1 x5 x6 (w64 (x7 + (1 : Int))) m2 m4)
def p2 (k : Nat) (a1 : T1) : T2 := t2 a1
theorem o2 (k n1 : Nat) (a1 : T1) (h1 : l1 true k n1 = a1) : l2 true k n1 = p2 k a1 := lfo (b := l2 false k n1) (fx5 fun _ _ _ _ _ => lcR) (by kernel_rfl) (congrArg t2 h1)
def t8 (f2 : T2) : T8 := fun x5 x6 x7 x9 m2 m4 => (iteB (!decide (x9 = (0 : Int))) (some (((([] : List (D2)), (([] : List UInt8), (([] : List (D5)), ([] : List (D7))))), x9), ())) (f2 x5 x6 x7 m2 m4))
def p8 (k : Nat) (a1 : T1) : T8 := t8 (p2 k a1)
theorem o8 (k n1 : Nat) (a1 : T1) (h1 : l1 true k n1 = a1) : l8 true k n1 = p8 k a1 := lfo (b := l8 false k n1) (fx6 fun _ _ _ _ _ _ => lcR) (by kernel_rfl) (congrArg t8 (o2 k n1 a1 h1))
def t6 (f8 : T8) : T6 := fun x5 x6 x7 x8 x9 x10 x65 m2 m4 => (iteB x65 (f8 x5 x6 x7 (30 : Int) m2 m4) (withinR (1 : Int) (List.length x8) fun q19 => (bindR (s_ref10_Name ((List.getD x8 q19 ([] : List UInt8)), ())) fun r20 => (iteB (notB r20.1) (f8 x5 x6 x7 (31 : Int) m2 m4) (iteB (decide (((List.length m4.1 : Nat) : Int) = (32 : Int))) (f8 x5 x6 x7 (21 : Int) m2 m4) (withinR (1 : Int) (List.length x8) fun q21 => (withinR (0 : Int) (List.length x8) fun q22 => (mustR (room m4.1 ([((List.getD x8 q21 ([] : List UInt8)), (x10, ((decide ((List.getD x8 q22 ([] : List UInt8)) = ([115, 107, 105, 112] : List UInt8))), (0 : Int))))] : List (D2))) (f8 x5 x6 x7 x9 m2 ((m4.1 ++ ([((List.getD x8 q21 ([] : List UInt8)), (x10, ((decide ((List.getD x8 q22 ([] : List UInt8)) = ([115, 107, 105, 112] : List UInt8))), (0 : Int))))] : List (D2))), m4.2))))))))))
def p6 (k : Nat) (a1 : T1) : T6 := t6 (p8 k a1)
theorem o6 (k n1 : Nat) (a1 : T1) (h1 : l1 true k n1 = a1) : l6 true k n1 = p6 k a1 := lfo (b := l6 false k n1) (fx9 fun _ _ _ _ _ _ _ _ _ => lcR) (by kernel_rfl) (congrArg t6 (o8 k n1 a1 h1))
def t13 (f12 : T12) : T13 := fun x5 x6 x7 x8 x9 x11 m2 m4 => (f12 x5 x6 x7 x8 x9 (w64 (x11 + (1 : Int))) m2 m4)
def p13 (k : Nat) (a1 : T1) (a12 : T12) : T13 := t13 a12
theorem o13 (k n1 n12 : Nat) (a1 : T1) (a12 : T12) (h1 : l1 true k n1 = a1) (h12 : l12 true k n1 n12 = a12) : l13 true k n1 n12 = p13 k a1 a12 := lfo (b := l13 false k n1 n12) (fx8 fun _ _ _ _ _ _ _ _ => lcR) (by kernel_rfl) (congrArg t13 h12)
def t17 (f2 : T2) (f15 : T15) : T17 := fun x5 x6 x7 x8 x9 x12 m2 m4 => (withinR x12 (List.length m4.1) fun q25 => (withinR (1 : Int) (List.length x8) fun q26 => (iteB (decide ((List.getD m4.1 q25 (([] : List UInt8), (([] : List UInt8), (false, (0 : Int))))).1 = (List.getD x8 q26 ([] : List UInt8)))) (withinR (2 : Int) (List.length x8) fun q27 => (withinR (0 : Int) (List.length (List.getD x8 q27 ([] : List UInt8))) fun q28 => (withinR x12 (List.length m4.1) fun q29 => (iteB (!decide (x9 = (0 : Int))) (some (((([] : List (D2)), (([] : List UInt8), (([] : List (D5)), ([] : List (D7))))), x9), ())) (f2 x5 x6 x7 m2 ((List.set m4.1 q29 ((List.getD m4.1 q29 (([] : List UInt8), (([] : List UInt8), (false, (0 : Int))))).1, ((List.getD m4.1 q29 (([] : List UInt8), (([] : List UInt8), (false, (0 : Int))))).2.1, ((List.getD m4.1 q29 (([] : List UInt8), (([] : List UInt8), (false, (0 : Int))))).2.2.1, (w64 ((w64 ((byteAt (List.getD x8 q27 ([] : List UInt8)) q28))) - (48 : Int))))))), m4.2)))))) (f15 x5 x6 x7 x8 x9 (w64 (x12 - (1 : Int))) m2 m4))))
def p17 (k : Nat) (a1 : T1) (a15 : T15) : T17 := t17 (p2 k a1) a15
theorem o17 (k n1 n15 : Nat) (a1 : T1) (a15 : T15) (h1 : l1 true k n1 = a1) (h15 : l15 true k n1 n15 = a15) : l17 true k n1 n15 = p17 k a1 a15 := lfo (b := l17 false k n1 n15) (fx8 fun _ _ _ _ _ _ _ _ => lcR) (by kernel_rfl) (by have h := (congr (congrArg t17 (o2 k n1 a1 h1)) h15); exact h)
def t16 (f17 : T17) (f8 : T8) : T16 := fun x5 x6 x7 x8 x9 x12 x141 m2 m4 => (iteB x141 (f17 x5 x6 x7 x8 x9 x12 m2 m4) (f8 x5 x6 x7 x9 m2 m4))
def p16 (k : Nat) (a1 : T1) (a15 : T15) : T16 := t16 (p17 k a1 a15) (p8 k a1)
theorem o16 (k n1 n15 : Nat) (a1 : T1) (a15 : T15) (h1 : l1 true k n1 = a1) (h15 : l15 true k n1 n15 = a15) : l16 true k n1 n15 = p16 k a1 a15 := lfo (b := l16 false k n1 n15) (fx9 fun _ _ _ _ _ _ _ _ _ => lcR) (by kernel_rfl) (by have h := (congr (congrArg t16 (o17 k n1 n15 a1 a15 h1 h15)) (o8 k n1 a1 h1)); exact h)
def t15 (f16 : T16) : T15 := fun x5 x6 x7 x8 x9 x12 m2 m4 => (iteB (decide ((0 : Int) ≤ x12)) (f16 x5 x6 x7 x8 x9 x12 (decide (x9 = (0 : Int))) m2 m4) (f16 x5 x6 x7 x8 x9 x12 false m2 m4))
def p15 (k : Nat) (a1 : T1) : Nat → T15 := iter fun f => t15 (p16 k a1 f)
theorem o15 (k n1 : Nat) (a1 : T1) (h1 : l1 true k n1 = a1) : ∀ n, l15 true k n1 n = p15 k a1 n := oL (u := l15 false k n1) (by kernel_rfl) (fun n15 => (fx8 fun _ _ _ _ _ _ _ _ => lcL)) (fun n15 => by kernel_rfl) (fun n15 f h => (congrArg t15 (o16 k n1 n15 a1 f h1 h)))
def t14 (f15 : T15) : T14 := fun x5 x6 x7 x8 x9 m2 m4 => (f15 x5 x6 x7 x8 x9 (w64 (((List.length m4.1 : Nat) : Int) - (1 : Int))) m2 m4)
def p14 (k : Nat) (a1 : T1) : T14 := t14 (p15 k a1 k)
theorem o14 (k n1 : Nat) (a1 : T1) (h1 : l1 true k n1 = a1) : l14 true k n1 = p14 k a1 := lfo (b := l14 false k n1) (fx7 fun _ _ _ _ _ _ _ => lcR) (by kernel_rfl) (congrArg t14 (o15 k n1 a1 h1 k))
def t12 (f13 : T13) (f14 : T14) : T12 := fun x5 x6 x7 x8 x9 x11 m2 m4 => (iteB (decide (x11 < ((List.length m4.1 : Nat) : Int))) (withinR x11 (List.length m4.1) fun q23 => (withinR (1 : Int) (List.length x8) fun q24 => (iteB (decide ((List.getD m4.1 q23 (([] : List UInt8), (([] : List UInt8), (false, (0 : Int))))).1 = (List.getD x8 q24 ([] : List UInt8)))) (f13 x5 x6 x7 x8 (0 : Int) x11 m2 m4) (f13 x5 x6 x7 x8 x9 x11 m2 m4)))) (f14 x5 x6 x7 x8 x9 m2 m4))
def p12 (k : Nat) (a1 : T1) : Nat → T12 := iter fun f => t12 (p13 k a1 f) (p14 k a1)
theorem o12 (k n1 : Nat) (a1 : T1) (h1 : l1 true k n1 = a1) : ∀ n, l12 true k n1 n = p12 k a1 n := oL (u := l12 false k n1) (by kernel_rfl) (fun n12 => (fx8 fun _ _ _ _ _ _ _ _ => lcL)) (fun n12 => by kernel_rfl) (fun n12 f h => (congr (congrArg t12 (o13 k n1 n12 a1 f h1 h)) (o14 k n1 a1 h1)))
def t11 (f12 : T12) : T11 := fun x5 x6 x7 x8 m2 m4 => (f12 x5 x6 x7 x8 (31 : Int) (0 : Int) m2 m4)
def p11 (k : Nat) (a1 : T1) : T11 := t11 (p12 k a1 k)
theorem o11 (k n1 : Nat) (a1 : T1) (h1 : l1 true k n1 = a1) : l11 true k n1 = p11 k a1 := lfo (b := l11 false k n1) (fx6 fun _ _ _ _ _ _ => lcR) (by kernel_rfl) (congrArg t11 (o12 k n1 a1 h1 k))
def t7 (f11 : T11) : T7 := fun x5 x6 x7 x8 x114 m2 m4 => (iteB x114 (some (((([] : List (D2)), (([] : List UInt8), (([] : List (D5)), ([] : List (D7))))), (30 : Int)), ())) (f11 x5 x6 x7 x8 m2 m4))
def p7 (k : Nat) (a1 : T1) : T7 := t7 (p11 k a1)
theorem o7 (k n1 : Nat) (a1 : T1) (h1 : l1 true k n1 = a1) : l7 true k n1 = p7 k a1 := lfo (b := l7 false k n1) (fx7 fun _ _ _ _ _ _ _ => lcR) (by kernel_rfl) (congrArg t7 (o11 k n1 a1 h1))
def t19 (f8 : T8) : T19 := fun x5 x6 x7 x8 x9 x210 m2 m4 => (iteB x210 (f8 x5 x6 x7 (21 : Int) m2 m4) (withinR (1 : Int) (List.length x8) fun q33 => (mustR (decide (0 ≤ (3 : Int))) (mustR (decide ((3 : Int) ≤ (((List.length x8) : Nat) : Int))) (mustR (room m4.2.2.1 ([((List.getD x8 q33 ([] : List UInt8)), (List.drop (Int.toNat (3 : Int)) (List.take (List.length x8) x8)))] : List (D5))) (f8 x5 x6 x7 x9 m2 (m4.1, (m4.2.1, ((m4.2.2.1 ++ ([((List.getD x8 q33 ([] : List UInt8)), (List.drop (Int.toNat (3 : Int)) (List.take (List.length x8) x8)))] : List (D5))), m4.2.2.2)))))))))
def p19 (k : Nat) (a1 : T1) : T19 := t19 (p8 k a1)
theorem o19 (k n1 : Nat) (a1 : T1) (h1 : l1 true k n1 = a1) : l19 true k n1 = p19 k a1 := lfo (b := l19 false k n1) (fx8 fun _ _ _ _ _ _ _ _ => lcR) (by kernel_rfl) (congrArg t19 (o8 k n1 a1 h1))
def t18 (f8 : T8) (f19 : T19) : T18 := fun x5 x6 x7 x8 x9 x201 m2 m4 => (iteB x201 (f8 x5 x6 x7 (31 : Int) m2 m4) (iteB (decide ((11 : Int) < ((List.length x8 : Nat) : Int))) (f19 x5 x6 x7 x8 x9 true m2 m4) (f19 x5 x6 x7 x8 x9 (decide (((List.length m4.2.2.1 : Nat) : Int) = (64 : Int))) m2 m4)))
def p18 (k : Nat) (a1 : T1) : T18 := t18 (p8 k a1) (p19 k a1)
theorem o18 (k n1 : Nat) (a1 : T1) (h1 : l1 true k n1 = a1) : l18 true k n1 = p18 k a1 := lfo (b := l18 false k n1) (fx8 fun _ _ _ _ _ _ _ _ => lcR) (by kernel_rfl) (by have h := (congr (congrArg t18 (o8 k n1 a1 h1)) (o19 k n1 a1 h1)); exact h)
def t9 (f8 : T8) (f18 : T18) : T9 := fun x5 x6 x7 x8 x9 x190 m2 m4 => (iteB x190 (f8 x5 x6 x7 (30 : Int) m2 m4) (withinR (1 : Int) (List.length x8) fun q30 => (bindR (s_ref10_Name ((List.getD x8 q30 ([] : List UInt8)), ())) fun r31 => (iteB (notB r31.1) (f18 x5 x6 x7 x8 x9 true m2 m4) (mustR (decide (0 ≤ (3 : Int))) (mustR (decide ((3 : Int) ≤ (((List.length x8) : Nat) : Int))) (bindR (s_ref10_names ((List.drop (Int.toNat (3 : Int)) (List.take (List.length x8) x8)), ())) fun r32 => (f18 x5 x6 x7 x8 x9 (notB r32.1) m2 m4))))))))
def p9 (k : Nat) (a1 : T1) : T9 := t9 (p8 k a1) (p18 k a1)
theorem o9 (k n1 : Nat) (a1 : T1) (h1 : l1 true k n1 = a1) : l9 true k n1 = p9 k a1 := lfo (b := l9 false k n1) (fx8 fun _ _ _ _ _ _ _ _ => lcR) (by kernel_rfl) (by have h := (congr (congrArg t9 (o8 k n1 a1 h1)) (o18 k n1 a1 h1)); exact h)
def t22 (f8 : T8) : T22 := fun x5 x6 x7 x8 x9 x13 x250 m2 m4 => (iteB x250 (f8 x5 x6 x7 (30 : Int) m2 m4) (mustR (decide (0 ≤ (1 : Int))) (mustR (decide ((1 : Int) ≤ (((List.length x8) : Nat) : Int))) (bindR (s_ref10_names ((List.drop (Int.toNat (1 : Int)) (List.take (List.length x8) x8)), ())) fun r37 => (iteB (notB r37.1) (f8 x5 x6 x7 (31 : Int) m2 m4) (iteB (decide (((List.length m4.2.2.2 : Nat) : Int) = (16 : Int))) (f8 x5 x6 x7 (21 : Int) m2 m4) (mustR (decide (0 ≤ (1 : Int))) (mustR (decide ((1 : Int) ≤ (((List.length x8) : Nat) : Int))) (mustR (room m4.2.2.2 ([(x13, (List.drop (Int.toNat (1 : Int)) (List.take (List.length x8) x8)))] : List (D7))) (f8 x5 x6 x7 x9 m2 (m4.1, (m4.2.1, (m4.2.2.1, (m4.2.2.2 ++ ([(x13, (List.drop (Int.toNat (1 : Int)) (List.take (List.length x8) x8)))] : List (D7))))))))))))))))
def p22 (k : Nat) (a1 : T1) : T22 := t22 (p8 k a1)
theorem o22 (k n1 : Nat) (a1 : T1) (h1 : l1 true k n1 = a1) : l22 true k n1 = p22 k a1 := lfo (b := l22 false k n1) (fx9 fun _ _ _ _ _ _ _ _ _ => lcR) (by kernel_rfl) (congrArg t22 (o8 k n1 a1 h1))
def t21 (f22 : T22) : T21 := fun x5 x6 x7 x8 x9 x13 m2 m4 => (bindR (s_ref10_Arity (x13, ())) fun r36 => (iteB (decide ((w64 (((List.length x8 : Nat) : Int) - (1 : Int))) < r36.1.1)) (f22 x5 x6 x7 x8 x9 x13 true m2 m4) (f22 x5 x6 x7 x8 x9 x13 (decide (r36.1.2 < (w64 (((List.length x8 : Nat) : Int) - (1 : Int))))) m2 m4)))
def p21 (k : Nat) (a1 : T1) : T21 := t21 (p22 k a1)
theorem o21 (k n1 : Nat) (a1 : T1) (h1 : l1 true k n1 = a1) : l21 true k n1 = p21 k a1 := lfo (b := l21 false k n1) (fx8 fun _ _ _ _ _ _ _ _ => lcR) (by kernel_rfl) (congrArg t21 (o22 k n1 a1 h1))
def t20 (f21 : T21) : T20 := fun x5 x6 x7 x8 x9 x13 m2 m4 => (withinR (0 : Int) (List.length x8) fun q35 => (iteB (decide ((List.getD x8 q35 ([] : List UInt8)) = ([104, 111, 108, 101] : List UInt8))) (f21 x5 x6 x7 x8 x9 (3 : Int) m2 m4) (f21 x5 x6 x7 x8 x9 x13 m2 m4)))
def p20 (k : Nat) (a1 : T1) : T20 := t20 (p21 k a1)
theorem o20 (k n1 : Nat) (a1 : T1) (h1 : l1 true k n1 = a1) : l20 true k n1 = p20 k a1 := lfo (b := l20 false k n1) (fx8 fun _ _ _ _ _ _ _ _ => lcR) (by kernel_rfl) (congrArg t20 (o21 k n1 a1 h1))
def t10 (f20 : T20) (f8 : T8) : T10 := fun x5 x6 x7 x8 x9 x222 m2 m4 => (iteB x222 (withinR (0 : Int) (List.length x8) fun q34 => (iteB (decide ((List.getD x8 q34 ([] : List UInt8)) = ([100, 101, 108, 105, 109] : List UInt8))) (f20 x5 x6 x7 x8 x9 (2 : Int) m2 m4) (f20 x5 x6 x7 x8 x9 (1 : Int) m2 m4))) (f8 x5 x6 x7 (30 : Int) m2 m4))
def p10 (k : Nat) (a1 : T1) : T10 := t10 (p20 k a1) (p8 k a1)
theorem o10 (k n1 : Nat) (a1 : T1) (h1 : l1 true k n1 = a1) : l10 true k n1 = p10 k a1 := lfo (b := l10 false k n1) (fx8 fun _ _ _ _ _ _ _ _ => lcR) (by kernel_rfl) (by have h := (congr (congrArg t10 (o20 k n1 a1 h1)) (o8 k n1 a1 h1)); exact h)
def t5 (f6 : T6) (f7 : T7) (f8 : T8) (f9 : T9) (f10 : T10) : T5 := fun x5 x6 x7 x8 x9 x50 x51 m2 m4 => (iteB x51 (withinR x7 (List.length x6) fun q8 => (bindR (s_ref10_behind ((List.getD x6 q8 ([] : List UInt8)), ())) fun r9 => (iteB (decide (((List.length x8 : Nat) : Int) < (2 : Int))) (f6 x5 x6 x7 x8 x9 r9.1 true m2 m4) (f6 x5 x6 x7 x8 x9 r9.1 (decide (r9.1 = ([] : List UInt8))) m2 m4)))) (iteB (decide (x50 = ([99, 108, 97, 115, 115] : List UInt8))) (iteB (!decide (((List.length x8 : Nat) : Int) = (3 : Int))) (f7 x5 x6 x7 x8 true m2 m4) (withinR (2 : Int) (List.length x8) fun q10 => (iteB (!decide (((List.length (List.getD x8 q10 ([] : List UInt8)) : Nat) : Int) = (1 : Int))) (f7 x5 x6 x7 x8 true m2 m4) (withinR (2 : Int) (List.length x8) fun q11 => (withinR (0 : Int) (List.length (List.getD x8 q11 ([] : List UInt8))) fun q12 => (iteB (decide ((byteAt (List.getD x8 q11 ([] : List UInt8)) q12) < (49 : Int))) (f7 x5 x6 x7 x8 true m2 m4) (withinR (2 : Int) (List.length x8) fun q13 => (withinR (0 : Int) (List.length (List.getD x8 q13 ([] : List UInt8))) fun q14 => (f7 x5 x6 x7 x8 (decide ((57 : Int) < (byteAt (List.getD x8 q13 ([] : List UInt8)) q14))) m2 m4))))))))) (iteB (decide (x50 = ([115, 116, 97, 114, 116] : List UInt8))) (iteB (!decide (((List.length x8 : Nat) : Int) = (2 : Int))) (f8 x5 x6 x7 (30 : Int) m2 m4) (withinR (1 : Int) (List.length x8) fun q15 => (bindR (s_ref10_Name ((List.getD x8 q15 ([] : List UInt8)), ())) fun r16 => (iteB (notB r16.1) (f8 x5 x6 x7 (31 : Int) m2 m4) (iteB x5 (f8 x5 x6 x7 (32 : Int) m2 m4) (withinR (1 : Int) (List.length x8) fun q17 => (f8 true x6 x7 x9 m2 (m4.1, ((List.getD x8 q17 ([] : List UInt8)), m4.2.2))))))))) (iteB (decide (x50 = ([114, 117, 108, 101] : List UInt8))) (iteB (decide (((List.length x8 : Nat) : Int) < (3 : Int))) (f9 x5 x6 x7 x8 x9 true m2 m4) (withinR (2 : Int) (List.length x8) fun q18 => (f9 x5 x6 x7 x8 x9 (!(decide ((List.getD x8 q18 ([] : List UInt8)) = ([58] : List UInt8)))) m2 m4))) (iteB (decide (x50 = ([108, 105, 115, 116] : List UInt8))) (f10 x5 x6 x7 x8 x9 (decide (x50 = ([108, 105, 115, 116] : List UInt8))) m2 m4) (iteB (decide (x50 = ([100, 101, 108, 105, 109] : List UInt8))) (f10 x5 x6 x7 x8 x9 (decide (x50 = ([100, 101, 108, 105, 109] : List UInt8))) m2 m4) (f10 x5 x6 x7 x8 x9 (decide (x50 = ([104, 111, 108, 101] : List UInt8))) m2 m4)))))))
def p5 (k : Nat) (a1 : T1) : T5 := t5 (p6 k a1) (p7 k a1) (p8 k a1) (p9 k a1) (p10 k a1)
theorem o5 (k n1 : Nat) (a1 : T1) (h1 : l1 true k n1 = a1) : l5 true k n1 = p5 k a1 := lfo (b := l5 false k n1) (fx9 fun _ _ _ _ _ _ _ _ _ => lcR) (by kernel_rfl) (by have h := (congr (congr (congr (congr (congrArg t5 (o6 k n1 a1 h1)) (o7 k n1 a1 h1)) (o8 k n1 a1 h1)) (o9 k n1 a1 h1)) (o10 k n1 a1 h1)); exact h)
def t3 (f5 : T5) : T3 := fun x5 x6 x7 x8 m2 m4 => (withinR (0 : Int) (List.length x8) fun q7 => (iteB (decide ((List.getD x8 q7 ([] : List UInt8)) = ([116, 111, 107, 101, 110] : List UInt8))) (f5 x5 x6 x7 x8 (0 : Int) (List.getD x8 q7 ([] : List UInt8)) (decide ((List.getD x8 q7 ([] : List UInt8)) = ([116, 111, 107, 101, 110] : List UInt8))) m2 m4) (f5 x5 x6 x7 x8 (0 : Int) (List.getD x8 q7 ([] : List UInt8)) (decide ((List.getD x8 q7 ([] : List UInt8)) = ([115, 107, 105, 112] : List UInt8))) m2 m4)))
def p3 (k : Nat) (a1 : T1) : T3 := t3 (p5 k a1)
theorem o3 (k n1 : Nat) (a1 : T1) (h1 : l1 true k n1 = a1) : l3 true k n1 = p3 k a1 := lfo (b := l3 false k n1) (fx6 fun _ _ _ _ _ _ => lcR) (by kernel_rfl) (congrArg t3 (o5 k n1 a1 h1))
def t4 : T4 := fun m2 m4 => (some ((m4, (0 : Int)), ()))
def p4 (k : Nat) : T4 := t4
theorem o4 (k : Nat) : l4 true k = p4 k := lfo (b := l4 false k) (fx2 fun _ _ => lcR) (by kernel_rfl) rfl
def t1 (f2 : T2) (f3 : T3) (f4 : T4) : T1 := fun x5 x6 x7 m2 m4 => (iteB (decide (x7 < ((List.length x6 : Nat) : Int))) (withinR x7 (List.length x6) fun q3 => (bindR (s_ref10_words ((List.getD x6 q3 ([] : List UInt8)), ())) fun r4 => (iteB (decide (((List.length r4.1 : Nat) : Int) = (0 : Int))) (f2 x5 x6 x7 m2 m4) (withinR (0 : Int) (List.length r4.1) fun q5 => (withinR (0 : Int) (List.length (List.getD r4.1 q5 ([] : List UInt8))) fun q6 => (iteB (decide ((byteAt (List.getD r4.1 q5 ([] : List UInt8)) q6) = (35 : Int))) (f2 x5 x6 x7 m2 m4) (f3 x5 x6 x7 r4.1 m2 m4))))))) (f4 m2 m4))
def p1 (k : Nat) : Nat → T1 := iter fun f => t1 (p2 k f) (p3 k f) (p4 k)
theorem o1 (k : Nat) : ∀ n, l1 true k n = p1 k n := oL (u := l1 false k) (by kernel_rfl) (fun n1 => (fx5 fun _ _ _ _ _ => lcL)) (fun n1 => by kernel_rfl) (fun n1 f h => (congr (congr (congrArg t1 (o2 k n1 f h)) (o3 k n1 f h)) (o4 k)))
def t0 (f1 : T1) : T0 := fun a => (iteB (decide ((4000 : Int) < ((List.length a.1 : Nat) : Int))) (some (((([] : List (D2)), (([] : List UInt8), (([] : List (D5)), ([] : List (D7))))), (4 : Int)), ())) (bindR (s_ref01_Whole (a.1, ())) fun r1 => (iteB (notB r1.1) (some (((([] : List (D2)), (([] : List UInt8), (([] : List (D5)), ([] : List (D7))))), (2 : Int)), ())) (bindR (s_ref10_cut (a.1, ((10 : Int), ()))) fun r2 => (f1 false r2.1 (0 : Int) (([] : List (D2)), (([] : List UInt8), (([] : List (D5)), ([] : List (D7))))) (([] : List (D2)), (([] : List UInt8), (([] : List (D5)), ([] : List (D7))))))))))
def p0 (k : Nat) : T0 := t0 (p1 k k)
theorem o0 (k : Nat) : u0 k = p0 k := Eq.trans (by kernel_rfl) (congrArg t0 (o1 k k))
end ref10_Read
def s_ref10_Read (a : D17) : Option D30 := ref10_Read.p0 fuel a
def F_ref10_Read : FSpec cx.toNm := { ps := [.val .str], nres := 2, rt := t20, rm := .ro, f := s_ref10_Read }
theorem ok_ref10_Read : FnOk Tryd.prog F_ref10_Read 7 := fn_of (F := F_ref10_Read) (hn := ref10_Read.h) (E := ref10_Read.E) cxOk (tysT _ _ _) (fs_cons ok_ref01_Whole (fs_cons ok_ref10_cut (fs_cons ok_ref10_words (fs_cons ok_ref10_behind (fs_cons ok_ref10_Name (fs_cons ok_ref10_names (fs_cons ok_ref10_Arity fs_nil))))))) follows Tryd.func7 (by kernel_rfl) (fun a r h => ⟨fuel, (congrFun (ref10_Read.o0 fuel) a).trans ((by kernel_rfl : s_ref10_Read a = F_ref10_Read.f a).trans h)⟩)
namespace runes_shapeOf
def E : Env cx := { tys := tys, fs := fsOf [] }
abbrev R := Option (D47)
def h : Hint := { vs := [0, 2], ret := ([2], [2]), cuts := [(4, ([0, 2, 7], [2]), ([2], [2])), (6, ([0, 2, 15], [2]), ([2], [2])), (8, ([2, 23], [2]), ([2], [2])), (9, ([2], [2]), ([2], [2]))] }
def W : Pr cx (D47) := ⟨E, h, bodyC Tryd.f59, fin (S := cx) E Tryd.f59.results.toList t28 .ro [] []⟩
abbrev T4 := D14 → R
abbrev T3 := Bool → D14 → R
abbrev T2 := Int → Bool → D14 → R
abbrev T1 := Int → Bool → D14 → R
abbrev T0 := D26 → R
def u0 (k : Nat) : T0 := fun a => runOf (S := cx) E h k Tryd.f59 [.val (.int .u8)] t28 .ro a
abbrev l4 (c : Bool) (k : Nat) : T4 := fun m2 => lfR c W k [1, 1] [] ⟨[(2, vA 2)], [], [(2, ⟨t28, .ro, m2⟩)]⟩
abbrev l3 (c : Bool) (k : Nat) : T3 := fun x23 m2 => lfR c W k [1, 0, 0, 1, 1, 1, 1, 1, 1, 1] [] ⟨[(2, vA 2), (23, vB x23)], [], [(2, ⟨t28, .ro, m2⟩)]⟩
abbrev l2 (c : Bool) (k : Nat) : T2 := fun x0 x15 m2 => lfR c W k [1, 0, 0, 1, 1, 1, 1, 1] [] ⟨[(0, vR (.int .u8) x0), (2, vA 2), (15, vB x15)], [], [(2, ⟨t28, .ro, m2⟩)]⟩
abbrev l1 (c : Bool) (k : Nat) : T1 := fun x0 x7 m2 => lfR c W k [1, 0, 0, 1, 1, 1] [] ⟨[(0, vR (.int .u8) x0), (2, vA 2), (7, vB x7)], [], [(2, ⟨t28, .ro, m2⟩)]⟩
def t4 : T4 := fun m2 => (some (((0 : Int), ((0 : Int), (0 : Int))), ()))
def p4 (k : Nat) : T4 := t4
theorem o4 (k : Nat) : l4 true k = p4 k := lfo (b := l4 false k) (fx1 fun _ => lcR) (by kernel_rfl) rfl
def t3 (f4 : T4) : T3 := fun x23 m2 => (iteB x23 (some (((4 : Int), ((240 : Int), (65536 : Int))), ())) (f4 m2))
def p3 (k : Nat) : T3 := t3 (p4 k)
theorem o3 (k : Nat) : l3 true k = p3 k := lfo (b := l3 false k) (fx2 fun _ _ => lcR) (by kernel_rfl) (congrArg t3 (o4 k))
def t2 (f3 : T3) : T2 := fun x0 x15 m2 => (iteB x15 (some (((3 : Int), ((224 : Int), (2048 : Int))), ())) (iteB (decide ((240 : Int) ≤ x0)) (f3 (decide (x0 < (248 : Int))) m2) (f3 false m2)))
def p2 (k : Nat) : T2 := t2 (p3 k)
theorem o2 (k : Nat) : l2 true k = p2 k := lfo (b := l2 false k) (fx3 fun _ _ _ => lcR) (by kernel_rfl) (congrArg t2 (o3 k))
def t1 (f2 : T2) : T1 := fun x0 x7 m2 => (iteB x7 (some (((2 : Int), ((192 : Int), (128 : Int))), ())) (iteB (decide ((224 : Int) ≤ x0)) (f2 x0 (decide (x0 < (240 : Int))) m2) (f2 x0 false m2)))
def p1 (k : Nat) : T1 := t1 (p2 k)
theorem o1 (k : Nat) : l1 true k = p1 k := lfo (b := l1 false k) (fx3 fun _ _ _ => lcR) (by kernel_rfl) (congrArg t1 (o2 k))
def t0 (f1 : T1) : T0 := fun a => (iteB (decide (a.1 < (128 : Int))) (some (((1 : Int), ((0 : Int), (0 : Int))), ())) (iteB (decide ((192 : Int) ≤ a.1)) (f1 a.1 (decide (a.1 < (224 : Int))) ((0 : Int), ((0 : Int), (0 : Int)))) (f1 a.1 false ((0 : Int), ((0 : Int), (0 : Int))))))
def p0 (k : Nat) : T0 := t0 (p1 k)
theorem o0 (k : Nat) : u0 k = p0 k := Eq.trans (by kernel_rfl) (congrArg t0 (o1 k))
end runes_shapeOf
def s_runes_shapeOf (a : D26) : Option D47 := runes_shapeOf.p0 fuel a
def F_runes_shapeOf : FSpec cx.toNm := { ps := [.val (.int .u8)], nres := 1, rt := t28, rm := .ro, f := s_runes_shapeOf }
theorem ok_runes_shapeOf : FnOk Tryd.prog F_runes_shapeOf 59 := fn_of (F := F_runes_shapeOf) (hn := runes_shapeOf.h) (E := runes_shapeOf.E) cxOk (tysT _ _ _) fs_nil follows Tryd.func59 (by kernel_rfl) (fun a r h => ⟨fuel, (congrFun (runes_shapeOf.o0 fuel) a).trans ((by kernel_rfl : s_runes_shapeOf a = F_runes_shapeOf.f a).trans h)⟩)
namespace runes_isSign
def E : Env cx := { tys := tys, fs := fsOf [] }
abbrev R := Option (D19)
def h : Hint := { vs := [0, 2], ret := ([2], []) }
def W : Pr cx (D19) := ⟨E, h, bodyC Tryd.f61, fin (S := cx) E Tryd.f61.results.toList .bool .ro [] []⟩
abbrev T0 := D26 → R
def u0 (k : Nat) : T0 := fun a => runOf (S := cx) E h k Tryd.f61 [.val (.int .i64)] .bool .ro a
def t0 : T0 := fun a => (iteB (decide ((0 : Int) ≤ a.1)) (iteB (decide (a.1 < (1114112 : Int))) (iteB (decide (a.1 < (55296 : Int))) (some (true, ())) (some ((decide ((57343 : Int) < a.1)), ()))) (some (false, ()))) (some (false, ())))
def p0 (k : Nat) : T0 := t0
theorem o0 (k : Nat) : u0 k = p0 k := Eq.trans (by kernel_rfl) rfl
end runes_isSign
def s_runes_isSign (a : D26) : Option D19 := runes_isSign.p0 fuel a
def F_runes_isSign : FSpec cx.toNm := { ps := [.val (.int .i64)], nres := 1, rt := .bool, rm := .ro, f := s_runes_isSign }
theorem ok_runes_isSign : FnOk Tryd.prog F_runes_isSign 61 := fn_of (F := F_runes_isSign) (hn := runes_isSign.h) (E := runes_isSign.E) cxOk (tysT _ _ _) fs_nil follows Tryd.func61 (by kernel_rfl) (fun a r h => ⟨fuel, (congrFun (runes_isSign.o0 fuel) a).trans ((by kernel_rfl : s_runes_isSign a = F_runes_isSign.f a).trans h)⟩)
namespace runes_isFollower
def E : Env cx := { tys := tys, fs := fsOf [] }
abbrev R := Option (D19)
def h : Hint := { vs := [0, 2], ret := ([2], []) }
def W : Pr cx (D19) := ⟨E, h, bodyC Tryd.f60, fin (S := cx) E Tryd.f60.results.toList .bool .ro [] []⟩
abbrev T0 := D26 → R
def u0 (k : Nat) : T0 := fun a => runOf (S := cx) E h k Tryd.f60 [.val (.int .u8)] .bool .ro a
def t0 : T0 := fun a => (some ((decide ((bitI .and .u8 a.1 (192 : Int)) = (128 : Int))), ()))
def p0 (k : Nat) : T0 := t0
theorem o0 (k : Nat) : u0 k = p0 k := Eq.trans (by kernel_rfl) rfl
end runes_isFollower
def s_runes_isFollower (a : D26) : Option D19 := runes_isFollower.p0 fuel a
def F_runes_isFollower : FSpec cx.toNm := { ps := [.val (.int .u8)], nres := 1, rt := .bool, rm := .ro, f := s_runes_isFollower }
theorem ok_runes_isFollower : FnOk Tryd.prog F_runes_isFollower 60 := fn_of (F := F_runes_isFollower) (hn := runes_isFollower.h) (E := runes_isFollower.E) cxOk (tysT _ _ _) fs_nil follows Tryd.func60 (by kernel_rfl) (fun a r h => ⟨fuel, (congrFun (runes_isFollower.o0 fuel) a).trans ((by kernel_rfl : s_runes_isFollower a = F_runes_isFollower.f a).trans h)⟩)
namespace runes_First
def E : Env cx := { tys := tys, fs := fsOf [(59, F_runes_shapeOf), (60, F_runes_isFollower), (61, F_runes_isSign)] }
abbrev R := Option (D36)
def h : Hint := { vs := [0, 2, 3, 4, 5, 6], ret := ([2, 3], [4]), cuts := [(5, ([0, 4, 21], [4]), ([0, 4], [4])), (6, ([0, 4], [4]), ([0, 4], [4])), (8, ([0, 4, 5, 6], [4]), ([4, 5], [4])), (13, ([4, 5], [4]), ([4, 5], [4])), (14, ([4, 5, 55], [4]), ([4, 5], [4])), (15, ([4, 5], [4]), ([4, 5], [4]))] }
def W : Pr cx (D36) := ⟨E, h, bodyC Tryd.f48, fin (S := cx) E Tryd.f48.results.toList t23 .ro [] []⟩
abbrev T6 := Int → D14 → R
abbrev T5 := Int → Bool → D14 → R
abbrev T4 := Int → D14 → R
abbrev T3 := (List UInt8) → Int → Int → D14 → R
abbrev T2 := (List UInt8) → D14 → R
abbrev T1 := (List UInt8) → Bool → D14 → R
abbrev T0 := D17 → R
def u0 (k : Nat) : T0 := fun a => runOf (S := cx) E h k Tryd.f48 [.val .str] t23 .ro a
abbrev l6 (c : Bool) (k : Nat) : T6 := fun x5 m4 => lfR c W k [1, 1, 1, 1, 1, 1, 1] [] ⟨[(4, vA 4), (5, vI x5)], [], [(4, ⟨t28, .ro, m4⟩)]⟩
abbrev l5 (c : Bool) (k : Nat) : T5 := fun x5 x55 m4 => lfR c W k [1, 1, 1, 1, 1, 1, 0, 1] [] ⟨[(4, vA 4), (5, vI x5), (55, vB x55)], [], [(4, ⟨t28, .ro, m4⟩)]⟩
abbrev l4 (c : Bool) (k : Nat) : T4 := fun x5 m4 => lfR c W k [1, 1, 1, 1, 1, 1] [] ⟨[(4, vA 4), (5, vI x5)], [], [(4, ⟨t28, .ro, m4⟩)]⟩
abbrev l3 (c : Bool) (k n3 : Nat) : T3 := fun x0 x5 x6 m4 => lfL c W k [1, 1, 1, 1, 1, 0, 1, 0] [] n3 ⟨[(0, vS x0), (4, vA 4), (5, vI x5), (6, vI x6)], [], [(4, ⟨t28, .ro, m4⟩)]⟩
abbrev l2 (c : Bool) (k : Nat) : T2 := fun x0 m4 => lfR c W k [1, 1, 1, 1] [] ⟨[(0, vS x0), (4, vA 4)], [], [(4, ⟨t28, .ro, m4⟩)]⟩
abbrev l1 (c : Bool) (k : Nat) : T1 := fun x0 x21 m4 => lfR c W k [1, 1, 1, 0, 1] [] ⟨[(0, vS x0), (4, vA 4), (21, vB x21)], [], [(4, ⟨t28, .ro, m4⟩)]⟩
def t6 : T6 := fun x5 m4 => (some ((x5, m4.1), ()))
def p6 (k : Nat) : T6 := t6
theorem o6 (k : Nat) : l6 true k = p6 k := lfo (b := l6 false k) (fx2 fun _ _ => lcR) (by kernel_rfl) rfl
def t5 (f6 : T6) : T5 := fun x5 x55 m4 => (iteB x55 (some (((-1 : Int), (0 : Int)), ())) (f6 x5 m4))
def p5 (k : Nat) : T5 := t5 (p6 k)
theorem o5 (k : Nat) : l5 true k = p5 k := lfo (b := l5 false k) (fx3 fun _ _ _ => lcR) (by kernel_rfl) (congrArg t5 (o6 k))
def t4 (f5 : T5) : T4 := fun x5 m4 => (iteB (decide (x5 < m4.2.2)) (f5 x5 true m4) (bindR (s_runes_isSign (x5, ())) fun r7 => (f5 x5 (notB r7.1) m4)))
def p4 (k : Nat) : T4 := t4 (p5 k)
theorem o4 (k : Nat) : l4 true k = p4 k := lfo (b := l4 false k) (fx2 fun _ _ => lcR) (by kernel_rfl) (congrArg t4 (o5 k))
def t3 (f3 : T3) (f4 : T4) : T3 := fun x0 x5 x6 m4 => (iteB (decide (x6 < m4.1)) (withinR x6 (List.length x0) fun q4 => (bindR (s_runes_isFollower ((byteAt x0 q4), ())) fun r5 => (iteB (notB r5.1) (some (((-1 : Int), (0 : Int)), ())) (withinR x6 (List.length x0) fun q6 => (f3 x0 (bitI .or .i64 (shlI .i64 x5 (6 : Int)) (w64 ((bitI .and .u8 (byteAt x0 q6) (63 : Int))))) (w64 (x6 + (1 : Int))) m4))))) (f4 x5 m4))
def p3 (k : Nat) : Nat → T3 := iter fun f => t3 f (p4 k)
theorem o3 (k : Nat) : ∀ n, l3 true k n = p3 k n := oL (u := l3 false k) (by kernel_rfl) (fun n3 => (fx4 fun _ _ _ _ => lcL)) (fun n3 => by kernel_rfl) (fun n3 f h => (congr (congrArg t3 h) (o4 k)))
def t2 (f3 : T3) : T2 := fun x0 m4 => (withinR (0 : Int) (List.length x0) fun q3 => (f3 x0 (w64 ((w64 ((byteAt x0 q3))) - m4.2.1)) (1 : Int) m4))
def p2 (k : Nat) : T2 := t2 (p3 k k)
theorem o2 (k : Nat) : l2 true k = p2 k := lfo (b := l2 false k) (fx2 fun _ _ => lcR) (by kernel_rfl) (congrArg t2 (o3 k k))
def t1 (f2 : T2) : T1 := fun x0 x21 m4 => (iteB x21 (some (((-1 : Int), (0 : Int)), ())) (f2 x0 m4))
def p1 (k : Nat) : T1 := t1 (p2 k)
theorem o1 (k : Nat) : l1 true k = p1 k := lfo (b := l1 false k) (fx3 fun _ _ _ => lcR) (by kernel_rfl) (congrArg t1 (o2 k))
def t0 (f1 : T1) : T0 := fun a => (iteB (decide (a.1 = ([] : List UInt8))) (some (((-1 : Int), (0 : Int)), ())) (withinR (0 : Int) (List.length a.1) fun q1 => (bindR (s_runes_shapeOf ((byteAt a.1 q1), ())) fun r2 => (iteB (decide (r2.1.1 = (0 : Int))) (f1 a.1 true r2.1) (f1 a.1 (decide (((List.length a.1 : Nat) : Int) < r2.1.1)) r2.1)))))
def p0 (k : Nat) : T0 := t0 (p1 k)
theorem o0 (k : Nat) : u0 k = p0 k := Eq.trans (by kernel_rfl) (congrArg t0 (o1 k))
end runes_First
def s_runes_First (a : D17) : Option D36 := runes_First.p0 fuel a
def F_runes_First : FSpec cx.toNm := { ps := [.val .str], nres := 2, rt := t23, rm := .ro, f := s_runes_First }
theorem ok_runes_First : FnOk Tryd.prog F_runes_First 48 := fn_of (F := F_runes_First) (hn := runes_First.h) (E := runes_First.E) cxOk (tysT _ _ _) (fs_cons ok_runes_shapeOf (fs_cons ok_runes_isFollower (fs_cons ok_runes_isSign fs_nil))) follows Tryd.func48 (by kernel_rfl) (fun a r h => ⟨fuel, (congrFun (runes_First.o0 fuel) a).trans ((by kernel_rfl : s_runes_First a = F_runes_First.f a).trans h)⟩)
namespace runes_reader_next
def E : Env cx := { tys := tys, fs := fsOf [(48, F_runes_First)] }
abbrev R := Option (D43)
def h : Hint := { vs := [0, 2, 4], ret := ([0, 2], [1000000]) }
def W : Pr cx (D43) := ⟨E, h, bodyC Tryd.f32, fin (S := cx) E Tryd.f32.results.toList .bool .ro [1000000] [(t22, .ro)]⟩
abbrev T0 := D17 → R
def u0 (k : Nat) : T0 := fun a => runOf (S := cx) E h k Tryd.f32 [.io t22 .ro] .bool .ro a
def t0 : T0 := fun a => (bindR (s_runes_First (a.1, ())) fun r1 => (mustR (decide (0 ≤ r1.1.2)) (mustR (decide (r1.1.2 ≤ (((List.length a.1) : Nat) : Int))) (some ((decide ((0 : Int) < r1.1.2)), ((List.drop (Int.toNat r1.1.2) (List.take (List.length a.1) a.1)), ()))))))
def p0 (k : Nat) : T0 := t0
theorem o0 (k : Nat) : u0 k = p0 k := Eq.trans (by kernel_rfl) rfl
end runes_reader_next
def s_runes_reader_next (a : D17) : Option D43 := runes_reader_next.p0 fuel a
def F_runes_reader_next : FSpec cx.toNm := { ps := [.io t22 .ro], nres := 1, rt := .bool, rm := .ro, f := s_runes_reader_next }
theorem ok_runes_reader_next : FnOk Tryd.prog F_runes_reader_next 32 := fn_of (F := F_runes_reader_next) (hn := runes_reader_next.h) (E := runes_reader_next.E) cxOk (tysT _ _ _) (fs_cons ok_runes_First fs_nil) follows Tryd.func32 (by kernel_rfl) (fun a r h => ⟨fuel, (congrFun (runes_reader_next.o0 fuel) a).trans ((by kernel_rfl : s_runes_reader_next a = F_runes_reader_next.f a).trans h)⟩)
namespace runes_Whole
def E : Env cx := { tys := tys, fs := fsOf [(32, F_runes_reader_next)] }
abbrev R := Option (D19)
def h : Hint := { vs := [0, 2, 3], ret := ([2], [6]), cuts := [(2, ([3], [6]), ([3], [6])), (5, ([], []), ([], []))] }
def W : Pr cx (D19) := ⟨E, h, bodyC Tryd.f10, fin (S := cx) E Tryd.f10.results.toList .bool .ro [] []⟩
abbrev T2 := R
abbrev T1 := (List UInt8) → R
abbrev T0 := D17 → R
def u0 (k : Nat) : T0 := fun a => runOf (S := cx) E h k Tryd.f10 [.val .str] .bool .ro a
abbrev l2 (c : Bool) (k : Nat) : T2 := lfR c W k [1, 1, 1] [] ⟨[], [], []⟩
abbrev l1 (c : Bool) (k n1 : Nat) : T1 := fun m6 => lfL c W k [1, 1, 0, 0] [] n1 ⟨[(3, vA 6)], [], [(6, ⟨t22, .ro, m6⟩)]⟩
def t2 : T2 := (some (true, ()))
def p2 (k : Nat) : T2 := t2
theorem o2 (k : Nat) : l2 true k = p2 k := lfo (b := l2 false k) lcR (by kernel_rfl) rfl
def t1 (f1 : T1) (f2 : T2) : T1 := fun m6 => (iteB (!(decide (m6 = ([] : List UInt8)))) (bindR (s_runes_reader_next (m6, ())) fun r1 => (iteB (notB r1.1) (some (false, ())) (f1 r1.2.1))) f2)
def p1 (k : Nat) : Nat → T1 := iter fun f => t1 f (p2 k)
theorem o1 (k : Nat) : ∀ n, l1 true k n = p1 k n := oL (u := l1 false k) (by kernel_rfl) (fun n1 => (fx1 fun _ => lcL)) (fun n1 => by kernel_rfl) (fun n1 f h => (congr (congrArg t1 h) (o2 k)))
def t0 (f1 : T1) : T0 := fun a => (f1 a.1)
def p0 (k : Nat) : T0 := t0 (p1 k k)
theorem o0 (k : Nat) : u0 k = p0 k := Eq.trans (by kernel_rfl) (congrArg t0 (o1 k k))
end runes_Whole
def s_runes_Whole (a : D17) : Option D19 := runes_Whole.p0 fuel a
def F_runes_Whole : FSpec cx.toNm := { ps := [.val .str], nres := 1, rt := .bool, rm := .ro, f := s_runes_Whole }
theorem ok_runes_Whole : FnOk Tryd.prog F_runes_Whole 10 := fn_of (F := F_runes_Whole) (hn := runes_Whole.h) (E := runes_Whole.E) cxOk (tysT _ _ _) (fs_cons ok_runes_reader_next fs_nil) follows Tryd.func10 (by kernel_rfl) (fun a r h => ⟨fuel, (congrFun (runes_Whole.o0 fuel) a).trans ((by kernel_rfl : s_runes_Whole a = F_runes_Whole.f a).trans h)⟩)
namespace gram_Read
def E : Env cx := { tys := tys, fs := fsOf [(10, F_runes_Whole), (11, F_strings_Split), (12, F_line)] }
abbrev R := Option (D30)
def h : Hint := { vs := [0, 2, 3, 4, 6, 7, 21, 22, 23], ret := ([2, 3], [2, 19]), nil := [(18, m_3), (2, .ro)], cuts := [(7, ([2, 4, 21, 22, 23], [2, 19]), ([2, 4], [2, 19])), (13, ([2, 4], [2, 19]), ([2, 4], [2, 19]))] }
def W : Pr cx (D30) := ⟨E, h, bodyC Tryd.f6, fin (S := cx) E Tryd.f6.results.toList t20 .ro [] []⟩
abbrev T2 := D11 → D12 → R
abbrev T1 := D4 → Int → Int → D11 → D12 → R
abbrev T0 := D17 → R
def u0 (k : Nat) : T0 := fun a => runOf (S := cx) E h k Tryd.f6 [.val .str] t20 .ro a
abbrev l2 (c : Bool) (k : Nat) : T2 := fun m2 m19 => lfR c W k [1, 1, 1, 1] [] ⟨[(2, vA 2), (4, vA 19)], [], [(2, ⟨t15, .ro, m2⟩), (19, ⟨t17, m_3, m19⟩)]⟩
abbrev l1 (c : Bool) (k n1 : Nat) : T1 := fun x21 x22 x23 m2 m19 => lfL c W k [1, 1, 1, 0, 1, 0] [] n1 ⟨[(2, vA 2), (4, vA 19), (21, vR t5 x21), (22, vI x22), (23, vI x23)], [], [(2, ⟨t15, .ro, m2⟩), (19, ⟨t17, m_3, m19⟩)]⟩
def t2 : T2 := fun m2 m19 => (some ((m19.1, (0 : Int)), ()))
def p2 (k : Nat) : T2 := t2
theorem o2 (k : Nat) : l2 true k = p2 k := lfo (b := l2 false k) (fx2 fun _ _ => lcR) (by kernel_rfl) rfl
def t1 (f1 : T1) (f2 : T2) : T1 := fun x21 x22 x23 m2 m19 => (iteB (decide (x23 < x22)) (withinR x23 (List.length x21) fun q3 => (bindR (s_line (m19, ((List.getD x21 q3 ([] : List UInt8)), ()))) fun r4 => (iteB (!decide (r4.1 = (0 : Int))) (some (((([] : List (D2)), (([] : List UInt8), (([] : List (D5)), ([] : List (D7))))), r4.1), ())) (f1 x21 x22 (w64 (x23 + (1 : Int))) m2 r4.2.1)))) (f2 m2 m19))
def p1 (k : Nat) : Nat → T1 := iter fun f => t1 f (p2 k)
theorem o1 (k : Nat) : ∀ n, l1 true k n = p1 k n := oL (u := l1 false k) (by kernel_rfl) (fun n1 => (fx5 fun _ _ _ _ _ => lcL)) (fun n1 => by kernel_rfl) (fun n1 f h => (congr (congrArg t1 h) (o2 k)))
def t0 (f1 : T1) : T0 := fun a => (iteB (decide ((4000 : Int) < ((List.length a.1 : Nat) : Int))) (some (((([] : List (D2)), (([] : List UInt8), (([] : List (D5)), ([] : List (D7))))), (4 : Int)), ())) (bindR (s_runes_Whole (a.1, ())) fun r1 => (iteB (notB r1.1) (some (((([] : List (D2)), (([] : List UInt8), (([] : List (D5)), ([] : List (D7))))), (2 : Int)), ())) (bindR (s_strings_Split (a.1, (([10] : List UInt8), ()))) fun r2 => (f1 r2.1 ((List.length r2.1 : Nat) : Int) (0 : Int) (([] : List (D2)), (([] : List UInt8), (([] : List (D5)), ([] : List (D7))))) ((([] : List (D2)), (([] : List UInt8), (([] : List (D5)), ([] : List (D7))))), false))))))
def p0 (k : Nat) : T0 := t0 (p1 k k)
theorem o0 (k : Nat) : u0 k = p0 k := Eq.trans (by kernel_rfl) (congrArg t0 (o1 k k))
end gram_Read
def s_gram_Read (a : D17) : Option D30 := gram_Read.p0 fuel a
def F_gram_Read : FSpec cx.toNm := { ps := [.val .str], nres := 2, rt := t20, rm := .ro, f := s_gram_Read }
theorem ok_gram_Read : FnOk Tryd.prog F_gram_Read 6 := fn_of (F := F_gram_Read) (hn := gram_Read.h) (E := gram_Read.E) cxOk (tysT _ _ _) (fs_cons ok_runes_Whole (fs_cons ok_strings_Split (fs_cons ok_line fs_nil))) follows Tryd.func6 (by kernel_rfl) (fun a r h => ⟨fuel, (congrFun (gram_Read.o0 fuel) a).trans ((by kernel_rfl : s_gram_Read a = F_gram_Read.f a).trans h)⟩)
namespace law10_alive
def E : Env cx := { tys := tys, fs := fsOf [(6, F_gram_Read)] }
abbrev R := Option (D19)
def h : Hint := { vs := [0, 1, 2, 4, 6, 8], ret := ([0], [1, 3, 5, 7]) }
def W : Pr cx (D19) := ⟨E, h, bodyC Tryd.f5, fin (S := cx) E Tryd.f5.results.toList .bool .ro [] []⟩
abbrev T0 := Unit → R
def u0 (k : Nat) : T0 := fun a => runOf (S := cx) E h k Tryd.f5 [] .bool .ro a
def t0 : T0 := fun a => (bindR (s_gram_Read (([116, 111, 107, 101, 110, 32, 110, 32, 91, 48, 45, 57, 93, 43, 10, 114, 117, 108, 101, 32, 115, 32, 58, 32, 110, 32, 115] : List UInt8), ())) fun r1 => (bindR (s_gram_Read (([114, 117, 108, 101, 32, 115, 32, 110] : List UInt8), ())) fun r2 => (bindR (s_gram_Read (([116, 111, 107, 101, 110, 32, 49, 32, 97] : List UInt8), ())) fun r3 => (bindR (s_gram_Read (([99, 108, 97, 115, 115, 32, 120, 32, 51] : List UInt8), ())) fun r4 => (iteB (decide (r1.1.2 = (0 : Int))) (iteB (decide (((List.length r1.1.1.1 : Nat) : Int) = (1 : Int))) (withinR (0 : Int) (List.length r1.1.1.1) fun q5 => (iteB (decide ((List.getD r1.1.1.1 q5 (([] : List UInt8), (([] : List UInt8), (false, (0 : Int))))).2.1 = ([91, 48, 45, 57, 93, 43] : List UInt8))) (iteB (decide (((List.length r1.1.1.2.2.1 : Nat) : Int) = (1 : Int))) (withinR (0 : Int) (List.length r1.1.1.2.2.1) fun q6 => (iteB (decide (((List.length (List.getD r1.1.1.2.2.1 q6 (([] : List UInt8), ([] : List (List UInt8)))).2 : Nat) : Int) = (2 : Int))) (iteB (decide (r2.1.2 = (30 : Int))) (iteB (decide (r3.1.2 = (31 : Int))) (some ((decide (r4.1.2 = (31 : Int))), ())) (some (false, ()))) (some (false, ()))) (some (false, ())))) (some (false, ()))) (some (false, ())))) (some (false, ()))) (some (false, ())))))))
def p0 (k : Nat) : T0 := t0
theorem o0 (k : Nat) : u0 k = p0 k := Eq.trans (by kernel_rfl) rfl
end law10_alive
def s_law10_alive (a : Unit) : Option D19 := law10_alive.p0 fuel a
def F_law10_alive : FSpec cx.toNm := { ps := [], nres := 1, rt := .bool, rm := .ro, f := s_law10_alive }
theorem ok_law10_alive : FnOk Tryd.prog F_law10_alive 5 := fn_of (F := F_law10_alive) (hn := law10_alive.h) (E := law10_alive.E) cxOk (tysT _ _ _) (fs_cons ok_gram_Read fs_nil) follows Tryd.func5 (by kernel_rfl) (fun a r h => ⟨fuel, (congrFun (law10_alive.o0 fuel) a).trans ((by kernel_rfl : s_law10_alive a = F_law10_alive.f a).trans h)⟩)
namespace law10_GramLines
def E : Env cx := { tys := tys, fs := fsOf [(5, F_law10_alive), (6, F_gram_Read), (7, F_ref10_Read)] }
abbrev R := Option (D19)
def h : Hint := { vs := [0, 1, 2, 6, 7, 8, 9, 10, 11, 12, 13, 15], ret := ([6], [8, 10, 12, 14]), cuts := [(6, ([0, 1, 2, 7], []), ([0, 1, 2], [])), (10, ([0, 1, 2], []), ([0, 1, 2], [])), (21, ([8, 10, 12, 13, 95], [8, 10, 12]), ([8, 10, 12, 13], [8, 10, 12])), (22, ([8, 10, 12, 13], [8, 10, 12]), ([8, 10, 12, 13], [8, 10, 12]))] }
def W : Pr cx (D19) := ⟨E, h, bodyC Tryd.f3, fin (S := cx) E Tryd.f3.results.toList .bool .ro [] []⟩
abbrev T4 := Int → D11 → D11 → D11 → R
abbrev T3 := Int → Bool → D11 → D11 → D11 → R
abbrev T2 := (List UInt8) → (List UInt8) → (List UInt8) → R
abbrev T1 := (List UInt8) → (List UInt8) → (List UInt8) → Int → R
abbrev T0 := D21 → R
def u0 (k : Nat) : T0 := fun a => runOf (S := cx) E h k Tryd.f3 [.val .str, .val .str, .val .str] .bool .ro a
abbrev l4 (c : Bool) (k : Nat) : T4 := fun x13 m8 m10 m12 => lfR c W k [1, 1, 1, 1, 1, 1, 1, 1, 1, 1, 1, 1] [] ⟨[(8, vA 8), (10, vA 10), (12, vA 12), (13, vI x13)], [], [(8, ⟨t15, .ro, m8⟩), (10, ⟨t15, .ro, m10⟩), (12, ⟨t15, .ro, m12⟩)]⟩
abbrev l3 (c : Bool) (k : Nat) : T3 := fun x13 x95 m8 m10 m12 => lfR c W k [1, 1, 1, 1, 1, 1, 1, 1, 1, 1, 1, 0, 1] [] ⟨[(8, vA 8), (10, vA 10), (12, vA 12), (13, vI x13), (95, vB x95)], [], [(8, ⟨t15, .ro, m8⟩), (10, ⟨t15, .ro, m10⟩), (12, ⟨t15, .ro, m12⟩)]⟩
abbrev l2 (c : Bool) (k : Nat) : T2 := fun x0 x1 x2 => lfR c W k [1, 1, 1, 1] [] ⟨[(0, vS x0), (1, vS x1), (2, vS x2)], [], []⟩
abbrev l1 (c : Bool) (k n1 : Nat) : T1 := fun x0 x1 x2 x7 => lfL c W k [1, 1, 1, 0, 1, 0] [] n1 ⟨[(0, vS x0), (1, vS x1), (2, vS x2), (7, vI x7)], [], []⟩
def t4 : T4 := fun x13 m8 m10 m12 => (iteB (!decide (x13 = (0 : Int))) (iteB (decide ((32 : Int) < (w64 (((List.length m8.1 : Nat) : Int) + ((List.length m10.1 : Nat) : Int))))) (some (true, ())) (iteB (decide ((64 : Int) < (w64 (((List.length m8.2.2.1 : Nat) : Int) + ((List.length m10.2.2.1 : Nat) : Int))))) (some (true, ())) (some ((decide ((16 : Int) < (w64 (((List.length m8.2.2.2 : Nat) : Int) + ((List.length m10.2.2.2 : Nat) : Int))))), ())))) (iteB (decide (((List.length m12.1 : Nat) : Int) = (w64 (((List.length m8.1 : Nat) : Int) + ((List.length m10.1 : Nat) : Int))))) (iteB (decide (((List.length m12.2.2.1 : Nat) : Int) = (w64 (((List.length m8.2.2.1 : Nat) : Int) + ((List.length m10.2.2.1 : Nat) : Int))))) (iteB (decide (((List.length m12.2.2.2 : Nat) : Int) = (w64 (((List.length m8.2.2.2 : Nat) : Int) + ((List.length m10.2.2.2 : Nat) : Int))))) (mustR (decide (List.length m8.2.1 + List.length m10.2.1 ≤ 140737488355328)) (some ((decide (m12.2.1 = (m8.2.1 ++ m10.2.1))), ()))) (some (false, ()))) (some (false, ()))) (some (false, ()))))
def p4 (k : Nat) : T4 := t4
theorem o4 (k : Nat) : l4 true k = p4 k := lfo (b := l4 false k) (fx4 fun _ _ _ _ => lcR) (by kernel_rfl) rfl
def t3 (f4 : T4) : T3 := fun x13 x95 m8 m10 m12 => (iteB x95 (some ((!decide (x13 = (0 : Int))), ())) (f4 x13 m8 m10 m12))
def p3 (k : Nat) : T3 := t3 (p4 k)
theorem o3 (k : Nat) : l3 true k = p3 k := lfo (b := l3 false k) (fx5 fun _ _ _ _ _ => lcR) (by kernel_rfl) (congrArg t3 (o4 k))
def t2 (f3 : T3) : T2 := fun x0 x1 x2 => (bindR (s_gram_Read (x0, ())) fun r3 => (bindR (s_gram_Read (x1, ())) fun r4 => (mustR (decide (List.length x0 + List.length ([10, 32, 32, 10, 32, 35] : List UInt8) ≤ 140737488355328)) (mustR (decide (List.length (x0 ++ ([10, 32, 32, 10, 32, 35] : List UInt8)) + List.length x2 ≤ 140737488355328)) (mustR (decide (List.length ((x0 ++ ([10, 32, 32, 10, 32, 35] : List UInt8)) ++ x2) + List.length ([10] : List UInt8) ≤ 140737488355328)) (mustR (decide (List.length (((x0 ++ ([10, 32, 32, 10, 32, 35] : List UInt8)) ++ x2) ++ ([10] : List UInt8)) + List.length x1 ≤ 140737488355328)) (bindR (s_gram_Read (((((x0 ++ ([10, 32, 32, 10, 32, 35] : List UInt8)) ++ x2) ++ ([10] : List UInt8)) ++ x1), ())) fun r5 => (bindR (s_ref10_Read (x2, ())) fun r6 => (iteB (decide (r6.1.2 = (2 : Int))) (some ((decide (r5.1.2 = (2 : Int))), ())) (iteB (!decide (r3.1.2 = (0 : Int))) (iteB (decide (r5.1.2 = r3.1.2)) (some (true, ())) (iteB (decide (r5.1.2 = (2 : Int))) (some ((decide (r4.1.2 = (2 : Int))), ())) (some (false, ())))) (iteB (!decide (r4.1.2 = (0 : Int))) (iteB (!decide (r4.1.2 = (2 : Int))) (some (true, ())) (some ((decide (r5.1.2 = (2 : Int))), ()))) (iteB (!(decide (r3.1.1.2.1 = ([] : List UInt8)))) (f3 r5.1.2 (!(decide (r4.1.1.2.1 = ([] : List UInt8)))) r3.1.1 r4.1.1 r5.1.1) (f3 r5.1.2 false r3.1.1 r4.1.1 r5.1.1)))))))))))))
def p2 (k : Nat) : T2 := t2 (p3 k)
theorem o2 (k : Nat) : l2 true k = p2 k := lfo (b := l2 false k) (fx3 fun _ _ _ => lcR) (by kernel_rfl) (congrArg t2 (o3 k))
def t1 (f1 : T1) (f2 : T2) : T1 := fun x0 x1 x2 x7 => (iteB (decide (x7 < ((List.length x2 : Nat) : Int))) (withinR x7 (List.length x2) fun q2 => (iteB (decide ((byteAt x2 q2) = (10 : Int))) (some (true, ())) (f1 x0 x1 x2 (w64 (x7 + (1 : Int)))))) (f2 x0 x1 x2))
def p1 (k : Nat) : Nat → T1 := iter fun f => t1 f (p2 k)
theorem o1 (k : Nat) : ∀ n, l1 true k n = p1 k n := oL (u := l1 false k) (by kernel_rfl) (fun n1 => (fx4 fun _ _ _ _ => lcL)) (fun n1 => by kernel_rfl) (fun n1 f h => (congr (congrArg t1 h) (o2 k)))
def t0 (f1 : T1) : T0 := fun a => (bindR (s_law10_alive ()) fun r1 => (iteB (notB r1.1) (some (false, ())) (iteB (decide ((3900 : Int) < (w64 ((w64 (((List.length a.1 : Nat) : Int) + ((List.length a.2.1 : Nat) : Int))) + ((List.length a.2.2.1 : Nat) : Int))))) (some (true, ())) (f1 a.1 a.2.1 a.2.2.1 (0 : Int)))))
def p0 (k : Nat) : T0 := t0 (p1 k k)
theorem o0 (k : Nat) : u0 k = p0 k := Eq.trans (by kernel_rfl) (congrArg t0 (o1 k k))
end law10_GramLines
def s_law10_GramLines (a : D21) : Option D19 := law10_GramLines.p0 fuel a
def F_law10_GramLines : FSpec cx.toNm := { ps := [.val .str, .val .str, .val .str], nres := 1, rt := .bool, rm := .ro, f := s_law10_GramLines }
theorem ok_law10_GramLines : FnOk Tryd.prog F_law10_GramLines 3 := fn_of (F := F_law10_GramLines) (hn := law10_GramLines.h) (E := law10_GramLines.E) cxOk (tysT _ _ _) (fs_cons ok_law10_alive (fs_cons ok_gram_Read (fs_cons ok_ref10_Read fs_nil))) follows Tryd.func3 (by kernel_rfl) (fun a r h => ⟨fuel, (congrFun (law10_GramLines.o0 fuel) a).trans ((by kernel_rfl : s_law10_GramLines a = F_law10_GramLines.f a).trans h)⟩)
end
end Go.Proofs.YtogipciicekmoaaDoor.Vm.Gr
