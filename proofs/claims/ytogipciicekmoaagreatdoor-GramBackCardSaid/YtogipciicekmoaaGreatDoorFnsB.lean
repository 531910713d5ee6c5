/- What the other functions compute, as plain functions; that they do. -/
import Derived.Test.YtogipciicekmoaaGreatDoorText
import Derived.KernelRfl
namespace Go.Proofs.YtogipciicekmoaaGreatDoor.Vm.Gz
open Go Go.Proofs.YtogipciicekmoaaGreatDoor.Vm Go.Proofs
set_option linter.unusedVariables false
set_option maxRecDepth 100000
noncomputable section
namespace law10_longer
def E : Env cx := { tys := tys, fs := fsOf [] }
abbrev R := Option (D19)
def h : Hint := { vs := [0, 2, 3], ret := ([2], []), cuts := [(4, ([0, 3], []), ([], [])), (8, ([], []), ([], []))] }
def W : Pr cx (D19) := ⟨E, h, bodyC Tryz.f15, fin (S := cx) E Tryz.f15.results.toList .bool .ro [] []⟩
abbrev T2 := R
abbrev T1 := D4 → Int → R
abbrev T0 := D26 → R
def u0 (k : Nat) : T0 := fun a => runOf (S := cx) E h k Tryz.f15 [.val t5] .bool .ro a
abbrev l2 (c : Bool) (k : Nat) : T2 := lfR c W k [1, 1, 1] [] ⟨[], [], []⟩
abbrev l1 (c : Bool) (k n1 : Nat) : T1 := fun x0 x3 => lfL c W k [1, 1, 0, 1, 0] [] n1 ⟨[(0, vR t5 x0), (3, vI x3)], [], []⟩
def t2 : T2 := (some (false, ()))
def p2 (k : Nat) : T2 := t2
theorem o2 (k : Nat) : l2 true k = p2 k := lfo (b := l2 false k) lcR (by kernel_rfl) rfl
def t1 (f1 : T1) (f2 : T2) : T1 := fun x0 x3 => (iteB (decide (x3 < ((List.length x0 : Nat) : Int))) (withinR x3 (List.length x0) fun q1 => (iteB (decide ((100 : Int) < ((List.length (List.getD x0 q1 ([] : List UInt8)) : Nat) : Int))) (some (true, ())) (f1 x0 (w64 (x3 + (1 : Int)))))) f2)
def p1 (k : Nat) : Nat → T1 := iter fun f => t1 f (p2 k)
theorem o1 (k : Nat) : ∀ n, l1 true k n = p1 k n := oL (u := l1 false k) (by kernel_rfl) (fun n1 => (fx2 fun _ _ => lcL)) (fun n1 => by kernel_rfl) (fun n1 f h => (congr (congrArg t1 h) (o2 k)))
def t0 (f1 : T1) : T0 := fun a => (iteB (decide ((50 : Int) < ((List.length a.1 : Nat) : Int))) (some (true, ())) (f1 a.1 (0 : Int)))
def p0 (k : Nat) : T0 := t0 (p1 k k)
theorem o0 (k : Nat) : u0 k = p0 k := Eq.trans (by kernel_rfl) (congrArg t0 (o1 k k))
end law10_longer
def s_law10_longer (a : D26) : Option D19 := law10_longer.p0 fuel a
def F_law10_longer : FSpec cx.toNm := { ps := [.val t5], nres := 1, rt := .bool, rm := .ro, f := s_law10_longer }
theorem ok_law10_longer : FnOk Tryz.prog F_law10_longer 15 := fn_of (F := F_law10_longer) (hn := law10_longer.h) (E := law10_longer.E) cxOk (tysT _ _ _) fs_nil follows Tryz.func15 (by kernel_rfl) (fun a r h => ⟨fuel, (congrFun (law10_longer.o0 fuel) a).trans ((by kernel_rfl : s_law10_longer a = F_law10_longer.f a).trans h)⟩)
namespace law10_Great
def E : Env cx := { tys := tys, fs := fsOf [(15, F_law10_longer)] }
abbrev R := Option (D19)
def h : Hint := { vs := [0, 1, 2, 3, 4, 5], ret := ([2], [1]), cuts := [(2, ([1, 27], [1]), ([1], [1])), (3, ([1], [1]), ([1], [1])), (4, ([1, 3], [1]), ([1], [1])), (5, ([1, 3], [1]), ([1, 3], [1])), (7, ([1, 3, 52], [1]), ([1, 3], [1])), (8, ([1], [1]), ([1], [1])), (9, ([1, 4], [1]), ([1], [1])), (10, ([1, 4], [1]), ([1, 4], [1])), (12, ([1, 4, 76], [1]), ([1, 4], [1])), (13, ([1], [1]), ([1], [1])), (14, ([1, 5], [1]), ([], [])), (18, ([], []), ([], []))] }
def W : Pr cx (D19) := ⟨E, h, bodyC Tryz.f6, fin (S := cx) E Tryz.f6.results.toList .bool .ro [] []⟩
abbrev T6 := Int → D11 → R
abbrev T4 := Int → Bool → D11 → R
abbrev T10 := Int → D11 → R
abbrev T8 := Int → Bool → D11 → R
abbrev T12 := R
abbrev T11 := Int → D11 → R
abbrev T9 := D11 → R
abbrev T7 := Int → D11 → R
abbrev T5 := D11 → R
abbrev T3 := Int → D11 → R
abbrev T2 := D11 → R
abbrev T1 := Bool → D11 → R
abbrev T0 := D21 → R
def u0 (k : Nat) : T0 := fun a => runOf (S := cx) E h k Tryz.f6 [.val t15] .bool .ro a
abbrev l6 (c : Bool) (k n3 : Nat) : T6 := fun x3 m1 => lfR c W k [1, 1, 0, 1, 0, 0, 1, 1] [n3] ⟨[(1, vA 1), (3, vI x3)], [], [(1, ⟨t15, .ro, m1⟩)]⟩
abbrev l4 (c : Bool) (k n3 : Nat) : T4 := fun x3 x52 m1 => lfR c W k [1, 1, 0, 1, 0, 0, 1, 0, 0, 1] [n3] ⟨[(1, vA 1), (3, vI x3), (52, vB x52)], [], [(1, ⟨t15, .ro, m1⟩)]⟩
abbrev l10 (c : Bool) (k n7 : Nat) : T10 := fun x4 m1 => lfR c W k [1, 1, 1, 0, 1, 0, 0, 1, 1] [n7] ⟨[(1, vA 1), (4, vI x4)], [], [(1, ⟨t15, .ro, m1⟩)]⟩
abbrev l8 (c : Bool) (k n7 : Nat) : T8 := fun x4 x76 m1 => lfR c W k [1, 1, 1, 0, 1, 0, 0, 1, 0, 0, 1] [n7] ⟨[(1, vA 1), (4, vI x4), (76, vB x76)], [], [(1, ⟨t15, .ro, m1⟩)]⟩
abbrev l12 (c : Bool) (k : Nat) : T12 := lfR c W k [1, 1, 1, 1, 1] [] ⟨[], [], []⟩
abbrev l11 (c : Bool) (k n11 : Nat) : T11 := fun x5 m1 => lfL c W k [1, 1, 1, 1, 0, 1, 0] [] n11 ⟨[(1, vA 1), (5, vI x5)], [], [(1, ⟨t15, .ro, m1⟩)]⟩
abbrev l9 (c : Bool) (k : Nat) : T9 := fun m1 => lfR c W k [1, 1, 1, 1] [] ⟨[(1, vA 1)], [], [(1, ⟨t15, .ro, m1⟩)]⟩
abbrev l7 (c : Bool) (k n7 : Nat) : T7 := fun x4 m1 => lfL c W k [1, 1, 1, 0, 1, 0] [] n7 ⟨[(1, vA 1), (4, vI x4)], [], [(1, ⟨t15, .ro, m1⟩)]⟩
abbrev l5 (c : Bool) (k : Nat) : T5 := fun m1 => lfR c W k [1, 1, 1] [] ⟨[(1, vA 1)], [], [(1, ⟨t15, .ro, m1⟩)]⟩
abbrev l3 (c : Bool) (k n3 : Nat) : T3 := fun x3 m1 => lfL c W k [1, 1, 0, 1, 0] [] n3 ⟨[(1, vA 1), (3, vI x3)], [], [(1, ⟨t15, .ro, m1⟩)]⟩
abbrev l2 (c : Bool) (k : Nat) : T2 := fun m1 => lfR c W k [1, 1] [] ⟨[(1, vA 1)], [], [(1, ⟨t15, .ro, m1⟩)]⟩
abbrev l1 (c : Bool) (k : Nat) : T1 := fun x27 m1 => lfR c W k [1, 0, 1] [] ⟨[(1, vA 1), (27, vB x27)], [], [(1, ⟨t15, .ro, m1⟩)]⟩
def t6 (f3 : T3) : T6 := fun x3 m1 => (f3 (w64 (x3 + (1 : Int))) m1)
def p6 (k : Nat) (a3 : T3) : T6 := t6 a3
theorem o6 (k n3 : Nat) (a3 : T3) (h3 : l3 true k n3 = a3) : l6 true k n3 = p6 k a3 := lfo (b := l6 false k n3) (fx2 fun _ _ => lcR) (by kernel_rfl) (congrArg t6 h3)
def t4 (f6 : T6) : T4 := fun x3 x52 m1 => (iteB x52 (some (true, ())) (f6 x3 m1))
def p4 (k : Nat) (a3 : T3) : T4 := t4 (p6 k a3)
theorem o4 (k n3 : Nat) (a3 : T3) (h3 : l3 true k n3 = a3) : l4 true k n3 = p4 k a3 := lfo (b := l4 false k n3) (fx3 fun _ _ _ => lcR) (by kernel_rfl) (congrArg t4 (o6 k n3 a3 h3))
def t10 (f7 : T7) : T10 := fun x4 m1 => (f7 (w64 (x4 + (1 : Int))) m1)
def p10 (k : Nat) (a7 : T7) : T10 := t10 a7
theorem o10 (k n7 : Nat) (a7 : T7) (h7 : l7 true k n7 = a7) : l10 true k n7 = p10 k a7 := lfo (b := l10 false k n7) (fx2 fun _ _ => lcR) (by kernel_rfl) (congrArg t10 h7)
def t8 (f10 : T10) : T8 := fun x4 x76 m1 => (iteB x76 (some (true, ())) (f10 x4 m1))
def p8 (k : Nat) (a7 : T7) : T8 := t8 (p10 k a7)
theorem o8 (k n7 : Nat) (a7 : T7) (h7 : l7 true k n7 = a7) : l8 true k n7 = p8 k a7 := lfo (b := l8 false k n7) (fx3 fun _ _ _ => lcR) (by kernel_rfl) (congrArg t8 (o10 k n7 a7 h7))
def t12 : T12 := (some (false, ()))
def p12 (k : Nat) : T12 := t12
theorem o12 (k : Nat) : l12 true k = p12 k := lfo (b := l12 false k) lcR (by kernel_rfl) rfl
def t11 (f11 : T11) (f12 : T12) : T11 := fun x5 m1 => (iteB (decide (x5 < ((List.length m1.2.2.2 : Nat) : Int))) (withinR x5 (List.length m1.2.2.2) fun q6 => (bindR (s_law10_longer ((List.getD m1.2.2.2 q6 ((0 : Int), ([] : List (List UInt8)))).2, ())) fun r7 => (iteB r7.1 (some (true, ())) (f11 (w64 (x5 + (1 : Int))) m1)))) f12)
def p11 (k : Nat) : Nat → T11 := iter fun f => t11 f (p12 k)
theorem o11 (k : Nat) : ∀ n, l11 true k n = p11 k n := oL (u := l11 false k) (by kernel_rfl) (fun n11 => (fx2 fun _ _ => lcL)) (fun n11 => by kernel_rfl) (fun n11 f h => (congr (congrArg t11 h) (o12 k)))
def t9 (f11 : T11) : T9 := fun m1 => (f11 (0 : Int) m1)
def p9 (k : Nat) : T9 := t9 (p11 k k)
theorem o9 (k : Nat) : l9 true k = p9 k := lfo (b := l9 false k) (fx1 fun _ => lcR) (by kernel_rfl) (congrArg t9 (o11 k k))
def t7 (f8 : T8) (f9 : T9) : T7 := fun x4 m1 => (iteB (decide (x4 < ((List.length m1.2.2.1 : Nat) : Int))) (withinR x4 (List.length m1.2.2.1) fun q3 => (iteB (decide ((100 : Int) < ((List.length (List.getD m1.2.2.1 q3 (([] : List UInt8), ([] : List (List UInt8)))).1 : Nat) : Int))) (f8 x4 true m1) (withinR x4 (List.length m1.2.2.1) fun q4 => (bindR (s_law10_longer ((List.getD m1.2.2.1 q4 (([] : List UInt8), ([] : List (List UInt8)))).2, ())) fun r5 => (f8 x4 r5.1 m1))))) (f9 m1))
def p7 (k : Nat) : Nat → T7 := iter fun f => t7 (p8 k f) (p9 k)
theorem o7 (k : Nat) : ∀ n, l7 true k n = p7 k n := oL (u := l7 false k) (by kernel_rfl) (fun n7 => (fx2 fun _ _ => lcL)) (fun n7 => by kernel_rfl) (fun n7 f h => (congr (congrArg t7 (o8 k n7 f h)) (o9 k)))
def t5 (f7 : T7) : T5 := fun m1 => (f7 (0 : Int) m1)
def p5 (k : Nat) : T5 := t5 (p7 k k)
theorem o5 (k : Nat) : l5 true k = p5 k := lfo (b := l5 false k) (fx1 fun _ => lcR) (by kernel_rfl) (congrArg t5 (o7 k k))
def t3 (f4 : T4) (f5 : T5) : T3 := fun x3 m1 => (iteB (decide (x3 < ((List.length m1.1 : Nat) : Int))) (withinR x3 (List.length m1.1) fun q1 => (iteB (decide ((100 : Int) < ((List.length (List.getD m1.1 q1 (([] : List UInt8), (([] : List UInt8), (false, (0 : Int))))).1 : Nat) : Int))) (f4 x3 true m1) (withinR x3 (List.length m1.1) fun q2 => (f4 x3 (decide ((500 : Int) < ((List.length (List.getD m1.1 q2 (([] : List UInt8), (([] : List UInt8), (false, (0 : Int))))).2.1 : Nat) : Int))) m1)))) (f5 m1))
def p3 (k : Nat) : Nat → T3 := iter fun f => t3 (p4 k f) (p5 k)
theorem o3 (k : Nat) : ∀ n, l3 true k n = p3 k n := oL (u := l3 false k) (by kernel_rfl) (fun n3 => (fx2 fun _ _ => lcL)) (fun n3 => by kernel_rfl) (fun n3 f h => (congr (congrArg t3 (o4 k n3 f h)) (o5 k)))
def t2 (f3 : T3) : T2 := fun m1 => (f3 (0 : Int) m1)
def p2 (k : Nat) : T2 := t2 (p3 k k)
theorem o2 (k : Nat) : l2 true k = p2 k := lfo (b := l2 false k) (fx1 fun _ => lcR) (by kernel_rfl) (congrArg t2 (o3 k k))
def t1 (f2 : T2) : T1 := fun x27 m1 => (iteB x27 (some (true, ())) (f2 m1))
def p1 (k : Nat) : T1 := t1 (p2 k)
theorem o1 (k : Nat) : l1 true k = p1 k := lfo (b := l1 false k) (fx2 fun _ _ => lcR) (by kernel_rfl) (congrArg t1 (o2 k))
def t0 (f1 : T1) : T0 := fun a => (iteB (decide ((50 : Int) < ((List.length a.1.1 : Nat) : Int))) (f1 true a.1) (iteB (decide ((100 : Int) < ((List.length a.1.2.2.1 : Nat) : Int))) (f1 true a.1) (iteB (decide ((50 : Int) < ((List.length a.1.2.2.2 : Nat) : Int))) (f1 true a.1) (f1 (decide ((100 : Int) < ((List.length a.1.2.1 : Nat) : Int))) a.1))))
def p0 (k : Nat) : T0 := t0 (p1 k)
theorem o0 (k : Nat) : u0 k = p0 k := Eq.trans (by kernel_rfl) (congrArg t0 (o1 k))
end law10_Great
def s_law10_Great (a : D21) : Option D19 := law10_Great.p0 fuel a
def F_law10_Great : FSpec cx.toNm := { ps := [.val t15], nres := 1, rt := .bool, rm := .ro, f := s_law10_Great }
theorem ok_law10_Great : FnOk Tryz.prog F_law10_Great 6 := fn_of (F := F_law10_Great) (hn := law10_Great.h) (E := law10_Great.E) cxOk (tysT _ _ _) (fs_cons ok_law10_longer fs_nil) follows Tryz.func6 (by kernel_rfl) (fun a r h => ⟨fuel, (congrFun (law10_Great.o0 fuel) a).trans ((by kernel_rfl : s_law10_Great a = F_law10_Great.f a).trans h)⟩)
namespace ref10_Name
def E : Env cx := { tys := tys, fs := fsOf [] }
abbrev R := Option (D19)
def h : Hint := { vs := [0, 2, 3, 4, 5], ret := ([2], []), cuts := [(2, ([0, 3], []), ([0], [])), (3, ([0, 3], []), ([0, 3], [])), (6, ([0, 3, 4, 5], []), ([0, 3], [])), (7, ([0, 3, 47], []), ([0, 3], [])), (8, ([0], []), ([0], []))] }
def W : Pr cx (D19) := ⟨E, h, bodyC Tryz.f11, fin (S := cx) E Tryz.f11.results.toList .bool .ro [] []⟩
abbrev T5 := (List UInt8) → Int → R
abbrev T4 := (List UInt8) → Int → Bool → R
abbrev T2 := (List UInt8) → Int → Int → Bool → R
abbrev T3 := (List UInt8) → R
abbrev T1 := (List UInt8) → Int → R
abbrev T0 := D17 → R
def u0 (k : Nat) : T0 := fun a => runOf (S := cx) E h k Tryz.f11 [.val .str] .bool .ro a
abbrev l5 (c : Bool) (k n1 : Nat) : T5 := fun x0 x3 => lfR c W k [1, 0, 1, 0, 0, 1, 1] [n1] ⟨[(0, vS x0), (3, vI x3)], [], []⟩
abbrev l4 (c : Bool) (k n1 : Nat) : T4 := fun x0 x3 x47 => lfR c W k [1, 0, 1, 0, 0, 1, 0, 0, 1, 1, 1] [n1] ⟨[(0, vS x0), (3, vI x3), (47, vB x47)], [], []⟩
abbrev l2 (c : Bool) (k n1 : Nat) : T2 := fun x0 x3 x4 x5 => lfR c W k [1, 0, 1, 0, 0, 1, 0, 0, 1, 1] [n1] ⟨[(0, vS x0), (3, vI x3), (4, vR (.int .u8) x4), (5, vB x5)], [], []⟩
abbrev l3 (c : Bool) (k : Nat) : T3 := fun x0 => lfR c W k [1, 1] [] ⟨[(0, vS x0)], [], []⟩
abbrev l1 (c : Bool) (k n1 : Nat) : T1 := fun x0 x3 => lfL c W k [1, 0, 1, 0] [] n1 ⟨[(0, vS x0), (3, vI x3)], [], []⟩
def t5 (f1 : T1) : T5 := fun x0 x3 => (f1 x0 (w64 (x3 + (1 : Int))))
def p5 (k : Nat) (a1 : T1) : T5 := t5 a1
theorem o5 (k n1 : Nat) (a1 : T1) (h1 : l1 true k n1 = a1) : l5 true k n1 = p5 k a1 := lfo (b := l5 false k n1) (fx2 fun _ _ => lcR) (by kernel_rfl) (congrArg t5 h1)
def t4 (f5 : T5) : T4 := fun x0 x3 x47 => (iteB x47 (some (false, ())) (f5 x0 x3))
def p4 (k : Nat) (a1 : T1) : T4 := t4 (p5 k a1)
theorem o4 (k n1 : Nat) (a1 : T1) (h1 : l1 true k n1 = a1) : l4 true k n1 = p4 k a1 := lfo (b := l4 false k n1) (fx3 fun _ _ _ => lcR) (by kernel_rfl) (congrArg t4 (o5 k n1 a1 h1))
def t2 (f4 : T4) : T2 := fun x0 x3 x4 x5 => (iteB (notB x5) (iteB (decide (x3 = (0 : Int))) (f4 x0 x3 true) (iteB (!decide (x4 = (95 : Int))) (iteB (decide ((48 : Int) ≤ x4)) (f4 x0 x3 (notB (decide (x4 ≤ (57 : Int))))) (f4 x0 x3 true)) (f4 x0 x3 false))) (f4 x0 x3 false))
def p2 (k : Nat) (a1 : T1) : T2 := t2 (p4 k a1)
theorem o2 (k n1 : Nat) (a1 : T1) (h1 : l1 true k n1 = a1) : l2 true k n1 = p2 k a1 := lfo (b := l2 false k n1) (fx4 fun _ _ _ _ => lcR) (by kernel_rfl) (congrArg t2 (o4 k n1 a1 h1))
def t3 : T3 := fun x0 => (iteB (decide ((0 : Int) < ((List.length x0 : Nat) : Int))) (some ((decide (((List.length x0 : Nat) : Int) < (17 : Int))), ())) (some (false, ())))
def p3 (k : Nat) : T3 := t3
theorem o3 (k : Nat) : l3 true k = p3 k := lfo (b := l3 false k) (fx1 fun _ => lcR) (by kernel_rfl) rfl
def t1 (f2 : T2) (f3 : T3) : T1 := fun x0 x3 => (iteB (decide (x3 < ((List.length x0 : Nat) : Int))) (withinR x3 (List.length x0) fun q1 => (iteB (decide ((97 : Int) ≤ (byteAt x0 q1))) (iteB (decide ((byteAt x0 q1) ≤ (122 : Int))) (f2 x0 x3 (byteAt x0 q1) true) (iteB (decide ((65 : Int) ≤ (byteAt x0 q1))) (f2 x0 x3 (byteAt x0 q1) (decide ((byteAt x0 q1) ≤ (90 : Int)))) (f2 x0 x3 (byteAt x0 q1) false))) (iteB (decide ((65 : Int) ≤ (byteAt x0 q1))) (f2 x0 x3 (byteAt x0 q1) (decide ((byteAt x0 q1) ≤ (90 : Int)))) (f2 x0 x3 (byteAt x0 q1) false)))) (f3 x0))
def p1 (k : Nat) : Nat → T1 := iter fun f => t1 (p2 k f) (p3 k)
theorem o1 (k : Nat) : ∀ n, l1 true k n = p1 k n := oL (u := l1 false k) (by kernel_rfl) (fun n1 => (fx2 fun _ _ => lcL)) (fun n1 => by kernel_rfl) (fun n1 f h => (congr (congrArg t1 (o2 k n1 f h)) (o3 k)))
def t0 (f1 : T1) : T0 := fun a => (f1 a.1 (0 : Int))
def p0 (k : Nat) : T0 := t0 (p1 k k)
theorem o0 (k : Nat) : u0 k = p0 k := Eq.trans (by kernel_rfl) (congrArg t0 (o1 k k))
end ref10_Name
def s_ref10_Name (a : D17) : Option D19 := ref10_Name.p0 fuel a
def F_ref10_Name : FSpec cx.toNm := { ps := [.val .str], nres := 1, rt := .bool, rm := .ro, f := s_ref10_Name }
theorem ok_ref10_Name : FnOk Tryz.prog F_ref10_Name 11 := fn_of (F := F_ref10_Name) (hn := ref10_Name.h) (E := ref10_Name.E) cxOk (tysT _ _ _) fs_nil follows Tryz.func11 (by kernel_rfl) (fun a r h => ⟨fuel, (congrFun (ref10_Name.o0 fuel) a).trans ((by kernel_rfl : s_ref10_Name a = F_ref10_Name.f a).trans h)⟩)
namespace gram_Read
def E : Env cx := { tys := tys, fs := fsOf [(36, F_runes_Whole), (37, F_strings_Split), (38, F_line)] }
abbrev R := Option (D35)
def h : Hint := { vs := [0, 2, 3, 4, 6, 7, 21, 22, 23], ret := ([2, 3], [2, 19]), nil := [(18, m_3), (2, .ro)], cuts := [(7, ([2, 4, 21, 22, 23], [2, 19]), ([2, 4], [2, 19])), (13, ([2, 4], [2, 19]), ([2, 4], [2, 19]))] }
def W : Pr cx (D35) := ⟨E, h, bodyC Tryz.f13, fin (S := cx) E Tryz.f13.results.toList t23 .ro [] []⟩
abbrev T2 := D11 → D12 → R
abbrev T1 := D4 → Int → Int → D11 → D12 → R
abbrev T0 := D17 → R
def u0 (k : Nat) : T0 := fun a => runOf (S := cx) E h k Tryz.f13 [.val .str] t23 .ro a
abbrev l2 (c : Bool) (k : Nat) : T2 := fun m2 m19 => lfR c W k [1, 1, 1, 1] [] ⟨[(2, vA 2), (4, vA 19)], [], [(2, ⟨t15, .ro, m2⟩), (19, ⟨t17, m_3, m19⟩)]⟩
abbrev l1 (c : Bool) (k n1 : Nat) : T1 := fun x21 x22 x23 m2 m19 => lfL c W k [1, 1, 1, 0, 1, 0] [] n1 ⟨[(2, vA 2), (4, vA 19), (21, vR t5 x21), (22, vI x22), (23, vI x23)], [], [(2, ⟨t15, .ro, m2⟩), (19, ⟨t17, m_3, m19⟩)]⟩
def t2 : T2 := fun m2 m19 => (some ((m19.1, (0 : Int)), ()))
def p2 (k : Nat) : T2 := t2
theorem o2 (k : Nat) : l2 true k = p2 k := lfo (b := l2 false k) (fx2 fun _ _ => lcR) (by kernel_rfl) rfl
def t1 (f1 : T1) (f2 : T2) : T1 := fun x21 x22 x23 m2 m19 => (iteB (decide (x23 < x22)) (withinR x23 (List.length x21) fun q3 => (bindR (s_line (m19, ((List.getD x21 q3 ([] : List UInt8)), ()))) fun r4 => (iteB (!decide (r4.1 = (0 : Int))) (some (((([] : List (D2)), (([] : List UInt8), (([] : List (D5)), ([] : List (D7))))), r4.1), ())) (f1 x21 x22 (w64 (x23 + (1 : Int))) m2 r4.2.1)))) (f2 m2 m19))
def p1 (k : Nat) : Nat → T1 := iter fun f => t1 f (p2 k)
theorem o1 (k : Nat) : ∀ n, l1 true k n = p1 k n := oL (u := l1 false k) (by kernel_rfl) (fun n1 => (fx5 fun _ _ _ _ _ => lcL)) (fun n1 => by kernel_rfl) (fun n1 f h => (congr (congrArg t1 h) (o2 k)))
def t0 (f1 : T1) : T0 := fun a => (iteB (decide ((4000 : Int) < ((List.length a.1 : Nat) : Int))) (some (((([] : List (D2)), (([] : List UInt8), (([] : List (D5)), ([] : List (D7))))), (4 : Int)), ())) (bindR (s_runes_Whole (a.1, ())) fun r1 => (iteB (notB r1.1) (some (((([] : List (D2)), (([] : List UInt8), (([] : List (D5)), ([] : List (D7))))), (2 : Int)), ())) (bindR (s_strings_Split (a.1, (([10] : List UInt8), ()))) fun r2 => (f1 r2.1 ((List.length r2.1 : Nat) : Int) (0 : Int) (([] : List (D2)), (([] : List UInt8), (([] : List (D5)), ([] : List (D7))))) ((([] : List (D2)), (([] : List UInt8), (([] : List (D5)), ([] : List (D7))))), false))))))
def p0 (k : Nat) : T0 := t0 (p1 k k)
theorem o0 (k : Nat) : u0 k = p0 k := Eq.trans (by kernel_rfl) (congrArg t0 (o1 k k))
end gram_Read
def s_gram_Read (a : D17) : Option D35 := gram_Read.p0 fuel a
def F_gram_Read : FSpec cx.toNm := { ps := [.val .str], nres := 2, rt := t23, rm := .ro, f := s_gram_Read }
theorem ok_gram_Read : FnOk Tryz.prog F_gram_Read 13 := fn_of (F := F_gram_Read) (hn := gram_Read.h) (E := gram_Read.E) cxOk (tysT _ _ _) (fs_cons ok_runes_Whole (fs_cons ok_strings_Split (fs_cons ok_line fs_nil))) follows Tryz.func13 (by kernel_rfl) (fun a r h => ⟨fuel, (congrFun (gram_Read.o0 fuel) a).trans ((by kernel_rfl : s_gram_Read a = F_gram_Read.f a).trans h)⟩)
namespace law10_alive
def E : Env cx := { tys := tys, fs := fsOf [(13, F_gram_Read)] }
abbrev R := Option (D19)
def h : Hint := { vs := [0, 1, 2, 4, 6, 8], ret := ([0], [1, 3, 5, 7]) }
def W : Pr cx (D19) := ⟨E, h, bodyC Tryz.f5, fin (S := cx) E Tryz.f5.results.toList .bool .ro [] []⟩
abbrev T0 := Unit → R
def u0 (k : Nat) : T0 := fun a => runOf (S := cx) E h k Tryz.f5 [] .bool .ro a
def t0 : T0 := fun a => (bindR (s_gram_Read (([116, 111, 107, 101, 110, 32, 110, 32, 91, 48, 45, 57, 93, 43, 10, 114, 117, 108, 101, 32, 115, 32, 58, 32, 110, 32, 115] : List UInt8), ())) fun r1 => (bindR (s_gram_Read (([114, 117, 108, 101, 32, 115, 32, 110] : List UInt8), ())) fun r2 => (bindR (s_gram_Read (([116, 111, 107, 101, 110, 32, 49, 32, 97] : List UInt8), ())) fun r3 => (bindR (s_gram_Read (([99, 108, 97, 115, 115, 32, 120, 32, 51] : List UInt8), ())) fun r4 => (iteB (decide (r1.1.2 = (0 : Int))) (iteB (decide (((List.length r1.1.1.1 : Nat) : Int) = (1 : Int))) (withinR (0 : Int) (List.length r1.1.1.1) fun q5 => (iteB (decide ((List.getD r1.1.1.1 q5 (([] : List UInt8), (([] : List UInt8), (false, (0 : Int))))).2.1 = ([91, 48, 45, 57, 93, 43] : List UInt8))) (iteB (decide (((List.length r1.1.1.2.2.1 : Nat) : Int) = (1 : Int))) (withinR (0 : Int) (List.length r1.1.1.2.2.1) fun q6 => (iteB (decide (((List.length (List.getD r1.1.1.2.2.1 q6 (([] : List UInt8), ([] : List (List UInt8)))).2 : Nat) : Int) = (2 : Int))) (iteB (decide (r2.1.2 = (30 : Int))) (iteB (decide (r3.1.2 = (31 : Int))) (some ((decide (r4.1.2 = (31 : Int))), ())) (some (false, ()))) (some (false, ()))) (some (false, ())))) (some (false, ()))) (some (false, ())))) (some (false, ()))) (some (false, ())))))))
def p0 (k : Nat) : T0 := t0
theorem o0 (k : Nat) : u0 k = p0 k := Eq.trans (by kernel_rfl) rfl
end law10_alive
def s_law10_alive (a : Unit) : Option D19 := law10_alive.p0 fuel a
def F_law10_alive : FSpec cx.toNm := { ps := [], nres := 1, rt := .bool, rm := .ro, f := s_law10_alive }
theorem ok_law10_alive : FnOk Tryz.prog F_law10_alive 5 := fn_of (F := F_law10_alive) (hn := law10_alive.h) (E := law10_alive.E) cxOk (tysT _ _ _) (fs_cons ok_gram_Read fs_nil) follows Tryz.func5 (by kernel_rfl) (fun a r h => ⟨fuel, (congrFun (law10_alive.o0 fuel) a).trans ((by kernel_rfl : s_law10_alive a = F_law10_alive.f a).trans h)⟩)
namespace ref10_names
def E : Env cx := { tys := tys, fs := fsOf [(11, F_ref10_Name)] }
abbrev R := Option (D19)
def h : Hint := { vs := [0, 2, 3], ret := ([2], []), cuts := [(2, ([0, 3], []), ([], [])), (6, ([], []), ([], []))] }
def W : Pr cx (D19) := ⟨E, h, bodyC Tryz.f34, fin (S := cx) E Tryz.f34.results.toList .bool .ro [] []⟩
abbrev T2 := R
abbrev T1 := D4 → Int → R
abbrev T0 := D26 → R
def u0 (k : Nat) : T0 := fun a => runOf (S := cx) E h k Tryz.f34 [.val t5] .bool .ro a
abbrev l2 (c : Bool) (k : Nat) : T2 := lfR c W k [1, 1] [] ⟨[], [], []⟩
abbrev l1 (c : Bool) (k n1 : Nat) : T1 := fun x0 x3 => lfL c W k [1, 0, 1, 0] [] n1 ⟨[(0, vR t5 x0), (3, vI x3)], [], []⟩
def t2 : T2 := (some (true, ()))
def p2 (k : Nat) : T2 := t2
theorem o2 (k : Nat) : l2 true k = p2 k := lfo (b := l2 false k) lcR (by kernel_rfl) rfl
def t1 (f1 : T1) (f2 : T2) : T1 := fun x0 x3 => (iteB (decide (x3 < ((List.length x0 : Nat) : Int))) (withinR x3 (List.length x0) fun q1 => (bindR (s_ref10_Name ((List.getD x0 q1 ([] : List UInt8)), ())) fun r2 => (iteB (notB r2.1) (some (false, ())) (f1 x0 (w64 (x3 + (1 : Int))))))) f2)
def p1 (k : Nat) : Nat → T1 := iter fun f => t1 f (p2 k)
theorem o1 (k : Nat) : ∀ n, l1 true k n = p1 k n := oL (u := l1 false k) (by kernel_rfl) (fun n1 => (fx2 fun _ _ => lcL)) (fun n1 => by kernel_rfl) (fun n1 f h => (congr (congrArg t1 h) (o2 k)))
def t0 (f1 : T1) : T0 := fun a => (f1 a.1 (0 : Int))
def p0 (k : Nat) : T0 := t0 (p1 k k)
theorem o0 (k : Nat) : u0 k = p0 k := Eq.trans (by kernel_rfl) (congrArg t0 (o1 k k))
end ref10_names
def s_ref10_names (a : D26) : Option D19 := ref10_names.p0 fuel a
def F_ref10_names : FSpec cx.toNm := { ps := [.val t5], nres := 1, rt := .bool, rm := .ro, f := s_ref10_names }
theorem ok_ref10_names : FnOk Tryz.prog F_ref10_names 34 := fn_of (F := F_ref10_names) (hn := ref10_names.h) (E := ref10_names.E) cxOk (tysT _ _ _) (fs_cons ok_ref10_Name fs_nil) follows Tryz.func34 (by kernel_rfl) (fun a r h => ⟨fuel, (congrFun (ref10_names.o0 fuel) a).trans ((by kernel_rfl : s_ref10_names a = F_ref10_names.f a).trans h)⟩)
namespace ref10_Arity
def E : Env cx := { tys := tys, fs := fsOf [] }
abbrev R := Option (D39)
def h : Hint := { vs := [0, 2, 3], ret := ([2, 3], []) }
def W : Pr cx (D39) := ⟨E, h, bodyC Tryz.f35, fin (S := cx) E Tryz.f35.results.toList t25 .ro [] []⟩
abbrev T0 := D27 → R
def u0 (k : Nat) : T0 := fun a => runOf (S := cx) E h k Tryz.f35 [.val (.int .u8)] t25 .ro a
def t0 : T0 := fun a => (iteB (decide (a.1 = (1 : Int))) (some (((2 : Int), (3 : Int)), ())) (iteB (decide (a.1 = (2 : Int))) (some (((4 : Int), (4 : Int)), ())) (iteB (decide (a.1 = (3 : Int))) (some (((2 : Int), (2 : Int)), ())) (some (((1 : Int), (0 : Int)), ())))))
def p0 (k : Nat) : T0 := t0
theorem o0 (k : Nat) : u0 k = p0 k := Eq.trans (by kernel_rfl) rfl
end ref10_Arity
def s_ref10_Arity (a : D27) : Option D39 := ref10_Arity.p0 fuel a
def F_ref10_Arity : FSpec cx.toNm := { ps := [.val (.int .u8)], nres := 2, rt := t25, rm := .ro, f := s_ref10_Arity }
theorem ok_ref10_Arity : FnOk Tryz.prog F_ref10_Arity 35 := fn_of (F := F_ref10_Arity) (hn := ref10_Arity.h) (E := ref10_Arity.E) cxOk (tysT _ _ _) fs_nil follows Tryz.func35 (by kernel_rfl) (fun a r h => ⟨fuel, (congrFun (ref10_Arity.o0 fuel) a).trans ((by kernel_rfl : s_ref10_Arity a = F_ref10_Arity.f a).trans h)⟩)
namespace ref01_Sign
def E : Env cx := { tys := tys, fs := fsOf [] }
abbrev R := Option (D19)
def h : Hint := { vs := [0, 2], ret := ([2], []) }
def W : Pr cx (D19) := ⟨E, h, bodyC Tryz.f66, fin (S := cx) E Tryz.f66.results.toList .bool .ro [] []⟩
abbrev T0 := D27 → R
def u0 (k : Nat) : T0 := fun a => runOf (S := cx) E h k Tryz.f66 [.val (.int .i64)] .bool .ro a
def t0 : T0 := fun a => (iteB (decide ((0 : Int) ≤ a.1)) (iteB (decide (a.1 < (1114112 : Int))) (iteB (decide ((55296 : Int) ≤ a.1)) (some ((notB (decide (a.1 ≤ (57343 : Int)))), ())) (some (true, ()))) (some (false, ()))) (some (false, ())))
def p0 (k : Nat) : T0 := t0
theorem o0 (k : Nat) : u0 k = p0 k := Eq.trans (by kernel_rfl) rfl
end ref01_Sign
def s_ref01_Sign (a : D27) : Option D19 := ref01_Sign.p0 fuel a
def F_ref01_Sign : FSpec cx.toNm := { ps := [.val (.int .i64)], nres := 1, rt := .bool, rm := .ro, f := s_ref01_Sign }
theorem ok_ref01_Sign : FnOk Tryz.prog F_ref01_Sign 66 := fn_of (F := F_ref01_Sign) (hn := ref01_Sign.h) (E := ref01_Sign.E) cxOk (tysT _ _ _) fs_nil follows Tryz.func66 (by kernel_rfl) (fun a r h => ⟨fuel, (congrFun (ref01_Sign.o0 fuel) a).trans ((by kernel_rfl : s_ref01_Sign a = F_ref01_Sign.f a).trans h)⟩)
namespace ref01_Bytes
def E : Env cx := { tys := tys, fs := fsOf [(66, F_ref01_Sign)] }
abbrev R := Option (D17)
def h : Hint := { vs := [0, 2], ret := ([2], []) }
def W : Pr cx (D17) := ⟨E, h, bodyC Tryz.f67, fin (S := cx) E Tryz.f67.results.toList .str .ro [] []⟩
abbrev T0 := D27 → R
def u0 (k : Nat) : T0 := fun a => runOf (S := cx) E h k Tryz.f67 [.val (.int .i64)] .str .ro a
def t0 : T0 := fun a => (bindR (s_ref01_Sign (a.1, ())) fun r1 => (iteB (notB r1.1) (some (([] : List UInt8), ())) (iteB (decide (a.1 < (128 : Int))) (some ((bytesOf ([(w8 (a.1))] : List (Int))), ())) (iteB (decide (a.1 < (2048 : Int))) (some ((bytesOf ([(w8 ((w64 ((192 : Int) + (w64 (Int.tdiv a.1 (64 : Int))))))), (w8 ((w64 ((128 : Int) + (Int.tmod a.1 (64 : Int))))))] : List (Int))), ())) (iteB (decide (a.1 < (65536 : Int))) (some ((bytesOf ([(w8 ((w64 ((224 : Int) + (w64 (Int.tdiv a.1 (4096 : Int))))))), (w8 ((w64 ((128 : Int) + (Int.tmod (w64 (Int.tdiv a.1 (64 : Int))) (64 : Int)))))), (w8 ((w64 ((128 : Int) + (Int.tmod a.1 (64 : Int))))))] : List (Int))), ())) (some ((bytesOf ([(w8 ((w64 ((240 : Int) + (w64 (Int.tdiv a.1 (262144 : Int))))))), (w8 ((w64 ((128 : Int) + (Int.tmod (w64 (Int.tdiv a.1 (4096 : Int))) (64 : Int)))))), (w8 ((w64 ((128 : Int) + (Int.tmod (w64 (Int.tdiv a.1 (64 : Int))) (64 : Int)))))), (w8 ((w64 ((128 : Int) + (Int.tmod a.1 (64 : Int))))))] : List (Int))), ())))))))
def p0 (k : Nat) : T0 := t0
theorem o0 (k : Nat) : u0 k = p0 k := Eq.trans (by kernel_rfl) rfl
end ref01_Bytes
def s_ref01_Bytes (a : D27) : Option D17 := ref01_Bytes.p0 fuel a
def F_ref01_Bytes : FSpec cx.toNm := { ps := [.val (.int .i64)], nres := 1, rt := .str, rm := .ro, f := s_ref01_Bytes }
theorem ok_ref01_Bytes : FnOk Tryz.prog F_ref01_Bytes 67 := fn_of (F := F_ref01_Bytes) (hn := ref01_Bytes.h) (E := ref01_Bytes.E) cxOk (tysT _ _ _) (fs_cons ok_ref01_Sign fs_nil) follows Tryz.func67 (by kernel_rfl) (fun a r h => ⟨fuel, (congrFun (ref01_Bytes.o0 fuel) a).trans ((by kernel_rfl : s_ref01_Bytes a = F_ref01_Bytes.f a).trans h)⟩)
namespace ref01_First
def E : Env cx := { tys := tys, fs := fsOf [(66, F_ref01_Sign), (67, F_ref01_Bytes)] }
abbrev R := Option (D39)
def h : Hint := { vs := [0, 2, 3, 4, 5, 6, 7, 8, 9], ret := ([2, 3], []), ords := [(18, [0, 1, 2, 3, 4, 5, 6, 7, 9, 10, 11, 8, 12, 13])], cuts := [(2, ([0, 4], []), ([], [])), (3, ([0, 4], []), ([0, 4], [])), (4, ([0, 4], []), ([0, 4], [])), (6, ([0, 4, 5, 6], []), ([0, 4], [])), (9, ([0, 4], []), ([0, 4], [])), (15, ([0, 4, 5, 8, 9], []), ([0, 4, 5, 8], [])), (18, ([0, 4, 5, 8], []), ([0, 4], [])), (19, ([0, 4, 5, 74], []), ([0, 4], [])), (20, ([], []), ([], [])), (1000000, ([0, 4, 17], []), ([0, 4], []))] }
def W : Pr cx (D39) := ⟨E, h, bodyC Tryz.f51, fin (S := cx) E Tryz.f51.results.toList t25 .ro [] []⟩
abbrev T10 := (List UInt8) → Int → R
abbrev T9 := (List UInt8) → Int → Int → Bool → R
abbrev T7 := (List UInt8) → Int → Int → Int → R
abbrev T8 := (List UInt8) → Int → Int → Int → Int → R
abbrev T6 := (List UInt8) → Int → R
abbrev T5 := (List UInt8) → Int → Int → Int → R
abbrev T3 := (List UInt8) → Int → R
abbrev T4 := R
abbrev T2 := (List UInt8) → Int → Bool → R
abbrev T1 := (List UInt8) → Int → R
abbrev T0 := D17 → R
def u0 (k : Nat) : T0 := fun a => runOf (S := cx) E h k Tryz.f51 [.val .str] t25 .ro a
abbrev l10 (c : Bool) (k n1 : Nat) : T10 := fun x0 x4 => lfR c W k [1, 0, 1, 0, 0, 1, 1] [n1] ⟨[(0, vS x0), (4, vI x4)], [], []⟩
abbrev l9 (c : Bool) (k n1 : Nat) : T9 := fun x0 x4 x5 x74 => lfR c W k [1, 0, 1, 0, 0, 1, 0, 0, 1, 1, 1, 1, 1, 1] [n1] ⟨[(0, vS x0), (4, vI x4), (5, vI x5), (74, vB x74)], [], []⟩
abbrev l7 (c : Bool) (k n1 : Nat) : T7 := fun x0 x4 x5 x8 => lfR c W k [1, 0, 1, 0, 0, 1, 0, 0, 1, 1, 1, 1, 1] [n1] ⟨[(0, vS x0), (4, vI x4), (5, vI x5), (8, vI x8)], [], []⟩
abbrev l8 (c : Bool) (k n1 n8 : Nat) : T8 := fun x0 x4 x5 x8 x9 => lfL c W k [1, 0, 1, 0, 0, 1, 0, 0, 1, 1, 1, 1, 0, 1, 1, 1, 1, 0] [n1] n8 ⟨[(0, vS x0), (4, vI x4), (5, vI x5), (8, vI x8), (9, vI x9)], [], []⟩
abbrev l6 (c : Bool) (k n1 : Nat) : T6 := fun x0 x4 => lfR c W k [1, 0, 1, 0, 0, 1, 0, 0, 1, 1] [n1] ⟨[(0, vS x0), (4, vI x4)], [], []⟩
abbrev l5 (c : Bool) (k n1 n5 : Nat) : T5 := fun x0 x4 x5 x6 => lfL c W k [1, 0, 1, 0, 0, 1, 0, 0, 1, 0, 1, 0] [n1] n5 ⟨[(0, vS x0), (4, vI x4), (5, vI x5), (6, vI x6)], [], []⟩
abbrev l3 (c : Bool) (k n1 : Nat) : T3 := fun x0 x4 => lfR c W k [1, 0, 1, 0, 0, 1] [n1] ⟨[(0, vS x0), (4, vI x4)], [], []⟩
abbrev l4 (c : Bool) (k : Nat) : T4 := lfR c W k [1, 1] [] ⟨[], [], []⟩
abbrev l2 (c : Bool) (k n1 : Nat) : T2 := fun x0 x4 x17 => lfR c W k [1, 0, 1, 0, 0, 0, 1] [n1] ⟨[(0, vS x0), (4, vI x4), (17, vB x17)], [], []⟩
abbrev l1 (c : Bool) (k n1 : Nat) : T1 := fun x0 x4 => lfL c W k [1, 0, 1, 0] [] n1 ⟨[(0, vS x0), (4, vI x4)], [], []⟩
def t10 (f1 : T1) : T10 := fun x0 x4 => (f1 x0 (w64 (x4 + (1 : Int))))
def p10 (k : Nat) (a1 : T1) : T10 := t10 a1
theorem o10 (k n1 : Nat) (a1 : T1) (h1 : l1 true k n1 = a1) : l10 true k n1 = p10 k a1 := lfo (b := l10 false k n1) (fx2 fun _ _ => lcR) (by kernel_rfl) (congrArg t10 h1)
def t9 (f10 : T10) : T9 := fun x0 x4 x5 x74 => (iteB x74 (some ((x5, x4), ())) (f10 x0 x4))
def p9 (k : Nat) (a1 : T1) : T9 := t9 (p10 k a1)
theorem o9 (k n1 : Nat) (a1 : T1) (h1 : l1 true k n1 = a1) : l9 true k n1 = p9 k a1 := lfo (b := l9 false k n1) (fx4 fun _ _ _ _ => lcR) (by kernel_rfl) (congrArg t9 (o10 k n1 a1 h1))
def t7 (f9 : T9) : T7 := fun x0 x4 x5 x8 => (iteB (decide ((0 : Int) ≤ x8)) (bindR (s_ref01_Sign (x5, ())) fun r5 => (iteB r5.1 (mustR (decide (0 ≤ x4)) (mustR (decide (x4 ≤ (((List.length x0) : Nat) : Int))) (bindR (s_ref01_Bytes (x5, ())) fun r6 => (f9 x0 x4 x5 (decide (r6.1 = (List.drop 0 (List.take (Int.toNat x4) x0)))))))) (f9 x0 x4 x5 false))) (f9 x0 x4 x5 false))
def p7 (k : Nat) (a1 : T1) : T7 := t7 (p9 k a1)
theorem o7 (k n1 : Nat) (a1 : T1) (h1 : l1 true k n1 = a1) : l7 true k n1 = p7 k a1 := lfo (b := l7 false k n1) (fx4 fun _ _ _ _ => lcR) (by kernel_rfl) (congrArg t7 (o9 k n1 a1 h1))
def t8 (f8 : T8) (f7 : T7) : T8 := fun x0 x4 x5 x8 x9 => (iteB (decide (x9 < x4)) (withinR x9 (List.length x0) fun q7 => (f8 x0 x4 (w64 ((w64 ((64 : Int) * x5)) + (w64 ((Int.tmod (byteAt x0 q7) (64 : Int)))))) x8 (w64 (x9 + (1 : Int))))) (f7 x0 x4 x5 x8))
def p8 (k : Nat) (a1 : T1) : Nat → T8 := iter fun f => t8 f (p7 k a1)
theorem o8 (k n1 : Nat) (a1 : T1) (h1 : l1 true k n1 = a1) : ∀ n, l8 true k n1 n = p8 k a1 n := oL (u := l8 false k n1) (by kernel_rfl) (fun n8 => (fx5 fun _ _ _ _ _ => lcL)) (fun n8 => by kernel_rfl) (fun n8 f h => (congr (congrArg t8 h) (o7 k n1 a1 h1)))
def t6 (f7 : T7) (f8 : T8) : T6 := fun x0 x4 => (withinR x4 (List.length ([(0 : Int), (0 : Int), (192 : Int), (224 : Int), (240 : Int)] : List (Int))) fun q2 => (withinR (0 : Int) (List.length x0) fun q3 => (iteB (decide (x4 = (1 : Int))) (withinR (0 : Int) (List.length x0) fun q4 => (f7 x0 x4 (w64 ((byteAt x0 q4))) (w64 ((w64 ((byteAt x0 q3))) - (List.getD ([(0 : Int), (0 : Int), (192 : Int), (224 : Int), (240 : Int)] : List (Int)) q2 (0 : Int)))))) (f8 x0 x4 (w64 ((w64 ((byteAt x0 q3))) - (List.getD ([(0 : Int), (0 : Int), (192 : Int), (224 : Int), (240 : Int)] : List (Int)) q2 (0 : Int)))) (w64 ((w64 ((byteAt x0 q3))) - (List.getD ([(0 : Int), (0 : Int), (192 : Int), (224 : Int), (240 : Int)] : List (Int)) q2 (0 : Int)))) (1 : Int)))))
def p6 (k : Nat) (a1 : T1) : T6 := t6 (p7 k a1) (p8 k a1 k)
theorem o6 (k n1 : Nat) (a1 : T1) (h1 : l1 true k n1 = a1) : l6 true k n1 = p6 k a1 := lfo (b := l6 false k n1) (fx2 fun _ _ => lcR) (by kernel_rfl) (by have h := (congr (congrArg t6 (o7 k n1 a1 h1)) (o8 k n1 a1 h1 k)); exact h)
def t5 (f5 : T5) (f6 : T6) : T5 := fun x0 x4 x5 x6 => (iteB (decide (x6 < x4)) (withinR x6 (List.length x0) fun q1 => (f5 x0 x4 (w64 ((w64 ((64 : Int) * x5)) + (w64 ((Int.tmod (byteAt x0 q1) (64 : Int)))))) (w64 (x6 + (1 : Int))))) (f6 x0 x4))
def p5 (k : Nat) (a1 : T1) : Nat → T5 := iter fun f => t5 f (p6 k a1)
theorem o5 (k n1 : Nat) (a1 : T1) (h1 : l1 true k n1 = a1) : ∀ n, l5 true k n1 n = p5 k a1 n := oL (u := l5 false k n1) (by kernel_rfl) (fun n5 => (fx4 fun _ _ _ _ => lcL)) (fun n5 => by kernel_rfl) (fun n5 f h => (congr (congrArg t5 h) (o6 k n1 a1 h1)))
def t3 (f5 : T5) : T3 := fun x0 x4 => (f5 x0 x4 (0 : Int) (0 : Int))
def p3 (k : Nat) (a1 : T1) : T3 := t3 (p5 k a1 k)
theorem o3 (k n1 : Nat) (a1 : T1) (h1 : l1 true k n1 = a1) : l3 true k n1 = p3 k a1 := lfo (b := l3 false k n1) (fx2 fun _ _ => lcR) (by kernel_rfl) (congrArg t3 (o5 k n1 a1 h1 k))
def t4 : T4 := (some (((-1 : Int), (0 : Int)), ()))
def p4 (k : Nat) : T4 := t4
theorem o4 (k : Nat) : l4 true k = p4 k := lfo (b := l4 false k) lcR (by kernel_rfl) rfl
def t2 (f3 : T3) (f4 : T4) : T2 := fun x0 x4 x17 => (iteB x17 (f3 x0 x4) f4)
def p2 (k : Nat) (a1 : T1) : T2 := t2 (p3 k a1) (p4 k)
theorem o2 (k n1 : Nat) (a1 : T1) (h1 : l1 true k n1 = a1) : l2 true k n1 = p2 k a1 := lfo (b := l2 false k n1) (fx3 fun _ _ _ => lcR) (by kernel_rfl) (by have h := (congr (congrArg t2 (o3 k n1 a1 h1)) (o4 k)); exact h)
def t1 (f2 : T2) : T1 := fun x0 x4 => (iteB (decide (x4 ≤ (4 : Int))) (f2 x0 x4 (decide (x4 ≤ ((List.length x0 : Nat) : Int)))) (f2 x0 x4 false))
def p1 (k : Nat) : Nat → T1 := iter fun f => t1 (p2 k f)
theorem o1 (k : Nat) : ∀ n, l1 true k n = p1 k n := oL (u := l1 false k) (by kernel_rfl) (fun n1 => (fx2 fun _ _ => lcL)) (fun n1 => by kernel_rfl) (fun n1 f h => (congrArg t1 (o2 k n1 f h)))
def t0 (f1 : T1) : T0 := fun a => (f1 a.1 (1 : Int))
def p0 (k : Nat) : T0 := t0 (p1 k k)
theorem o0 (k : Nat) : u0 k = p0 k := Eq.trans (by kernel_rfl) (congrArg t0 (o1 k k))
end ref01_First
def s_ref01_First (a : D17) : Option D39 := ref01_First.p0 fuel a
def F_ref01_First : FSpec cx.toNm := { ps := [.val .str], nres := 2, rt := t25, rm := .ro, f := s_ref01_First }
theorem ok_ref01_First : FnOk Tryz.prog F_ref01_First 51 := fn_of (F := F_ref01_First) (hn := ref01_First.h) (E := ref01_First.E) cxOk (tysT _ _ _) (fs_cons ok_ref01_Sign (fs_cons ok_ref01_Bytes fs_nil)) follows Tryz.func51 (by kernel_rfl) (fun a r h => ⟨fuel, (congrFun (ref01_First.o0 fuel) a).trans ((by kernel_rfl : s_ref01_First a = F_ref01_First.f a).trans h)⟩)
namespace ref01_Whole
def E : Env cx := { tys := tys, fs := fsOf [(51, F_ref01_First)] }
abbrev R := Option (D19)
def h : Hint := { vs := [0, 2, 4], ret := ([2], []), cuts := [(1, ([0], []), ([0], [])), (6, ([], []), ([], []))] }
def W : Pr cx (D19) := ⟨E, h, bodyC Tryz.f32, fin (S := cx) E Tryz.f32.results.toList .bool .ro [] []⟩
abbrev T2 := R
abbrev T1 := (List UInt8) → R
abbrev T0 := D17 → R
def u0 (k : Nat) : T0 := fun a => runOf (S := cx) E h k Tryz.f32 [.val .str] .bool .ro a
abbrev l2 (c : Bool) (k : Nat) : T2 := lfR c W k [1, 1] [] ⟨[], [], []⟩
abbrev l1 (c : Bool) (k n1 : Nat) : T1 := fun x0 => lfL c W k [1, 0, 0] [] n1 ⟨[(0, vS x0)], [], []⟩
def t2 : T2 := (some (true, ()))
def p2 (k : Nat) : T2 := t2
theorem o2 (k : Nat) : l2 true k = p2 k := lfo (b := l2 false k) lcR (by kernel_rfl) rfl
def t1 (f1 : T1) (f2 : T2) : T1 := fun x0 => (iteB (decide ((0 : Int) < ((List.length x0 : Nat) : Int))) (bindR (s_ref01_First (x0, ())) fun r1 => (iteB (decide (r1.1.2 = (0 : Int))) (some (false, ())) (mustR (decide (0 ≤ r1.1.2)) (mustR (decide (r1.1.2 ≤ (((List.length x0) : Nat) : Int))) (f1 (List.drop (Int.toNat r1.1.2) (List.take (List.length x0) x0))))))) f2)
def p1 (k : Nat) : Nat → T1 := iter fun f => t1 f (p2 k)
theorem o1 (k : Nat) : ∀ n, l1 true k n = p1 k n := oL (u := l1 false k) (by kernel_rfl) (fun n1 => (fx1 fun _ => lcL)) (fun n1 => by kernel_rfl) (fun n1 f h => (congr (congrArg t1 h) (o2 k)))
def t0 (f1 : T1) : T0 := fun a => (f1 a.1)
def p0 (k : Nat) : T0 := t0 (p1 k k)
theorem o0 (k : Nat) : u0 k = p0 k := Eq.trans (by kernel_rfl) (congrArg t0 (o1 k k))
end ref01_Whole
def s_ref01_Whole (a : D17) : Option D19 := ref01_Whole.p0 fuel a
def F_ref01_Whole : FSpec cx.toNm := { ps := [.val .str], nres := 1, rt := .bool, rm := .ro, f := s_ref01_Whole }
theorem ok_ref01_Whole : FnOk Tryz.prog F_ref01_Whole 32 := fn_of (F := F_ref01_Whole) (hn := ref01_Whole.h) (E := ref01_Whole.E) cxOk (tysT _ _ _) (fs_cons ok_ref01_First fs_nil) follows Tryz.func32 (by kernel_rfl) (fun a r h => ⟨fuel, (congrFun (ref01_Whole.o0 fuel) a).trans ((by kernel_rfl : s_ref01_Whole a = F_ref01_Whole.f a).trans h)⟩)
namespace ref10_cut
def E : Env cx := { tys := tys, fs := fsOf [] }
abbrev R := Option (D26)
def h : Hint := { vs := [0, 1, 4, 5, 6, 7], ret := ([4], []), nil := [(5, (.own .ro))], cuts := [(4, ([0, 1, 5, 6, 7], []), ([5], [])), (5, ([0, 1, 5, 6, 7], []), ([0, 1, 5, 6, 7], [])), (7, ([0, 1, 5, 6, 7, 24], []), ([0, 1, 5, 6, 7], [])), (9, ([5], []), ([5], []))] }
def W : Pr cx (D26) := ⟨E, h, bodyC Tryz.f33, fin (S := cx) E Tryz.f33.results.toList t5 .ro [] []⟩
abbrev T4 := (List UInt8) → Int → D4 → Int → Int → R
abbrev T2 := (List UInt8) → Int → D4 → Int → Int → Bool → R
abbrev T3 := D4 → R
abbrev T1 := (List UInt8) → Int → D4 → Int → Int → R
abbrev T0 := D38 → R
def u0 (k : Nat) : T0 := fun a => runOf (S := cx) E h k Tryz.f33 [.val .str, .val (.int .u8)] t5 .ro a
abbrev l4 (c : Bool) (k n1 : Nat) : T4 := fun x0 x1 x5 x6 x7 => lfR c W k [1, 1, 1, 0, 1, 0, 0, 1, 1] [n1] ⟨[(0, vS x0), (1, vR (.int .u8) x1), (5, .v t5 (.own .ro) x5), (6, vI x6), (7, vI x7)], [], []⟩
abbrev l2 (c : Bool) (k n1 : Nat) : T2 := fun x0 x1 x5 x6 x7 x24 => lfR c W k [1, 1, 1, 0, 1, 0, 0, 1, 0, 0, 1] [n1] ⟨[(0, vS x0), (1, vR (.int .u8) x1), (5, .v t5 (.own .ro) x5), (6, vI x6), (7, vI x7), (24, vB x24)], [], []⟩
abbrev l3 (c : Bool) (k : Nat) : T3 := fun x5 => lfR c W k [1, 1, 1, 1] [] ⟨[(5, .v t5 (.own .ro) x5)], [], []⟩
abbrev l1 (c : Bool) (k n1 : Nat) : T1 := fun x0 x1 x5 x6 x7 => lfL c W k [1, 1, 1, 0, 1, 0] [] n1 ⟨[(0, vS x0), (1, vR (.int .u8) x1), (5, .v t5 (.own .ro) x5), (6, vI x6), (7, vI x7)], [], []⟩
def t4 (f1 : T1) : T4 := fun x0 x1 x5 x6 x7 => (f1 x0 x1 x5 x6 (w64 (x7 + (1 : Int))))
def p4 (k : Nat) (a1 : T1) : T4 := t4 a1
theorem o4 (k n1 : Nat) (a1 : T1) (h1 : l1 true k n1 = a1) : l4 true k n1 = p4 k a1 := lfo (b := l4 false k n1) (fx5 fun _ _ _ _ _ => lcR) (by kernel_rfl) (congrArg t4 h1)
def t2 (f4 : T4) : T2 := fun x0 x1 x5 x6 x7 x24 => (iteB x24 (mustR (decide (0 ≤ x7)) (mustR (decide (x7 ≤ (((List.length x0) : Nat) : Int))) (mustR (decide (0 ≤ x6)) (mustR (decide (x6 ≤ (((Int.toNat x7) : Nat) : Int))) (mustR (room x5 ([(List.drop (Int.toNat x6) (List.take (Int.toNat x7) x0))] : List (List UInt8))) (f4 x0 x1 (x5 ++ ([(List.drop (Int.toNat x6) (List.take (Int.toNat x7) x0))] : List (List UInt8))) (w64 (x7 + (1 : Int))) x7)))))) (f4 x0 x1 x5 x6 x7))
def p2 (k : Nat) (a1 : T1) : T2 := t2 (p4 k a1)
theorem o2 (k n1 : Nat) (a1 : T1) (h1 : l1 true k n1 = a1) : l2 true k n1 = p2 k a1 := lfo (b := l2 false k n1) (fx6 fun _ _ _ _ _ _ => lcR) (by kernel_rfl) (congrArg t2 (o4 k n1 a1 h1))
def t3 : T3 := fun x5 => (some (x5, ()))
def p3 (k : Nat) : T3 := t3
theorem o3 (k : Nat) : l3 true k = p3 k := lfo (b := l3 false k) (fx1 fun _ => lcR) (by kernel_rfl) rfl
def t1 (f2 : T2) (f3 : T3) : T1 := fun x0 x1 x5 x6 x7 => (iteB (decide (x7 ≤ ((List.length x0 : Nat) : Int))) (iteB (decide (x7 = ((List.length x0 : Nat) : Int))) (f2 x0 x1 x5 x6 x7 true) (withinR x7 (List.length x0) fun q1 => (f2 x0 x1 x5 x6 x7 (decide ((byteAt x0 q1) = x1))))) (f3 x5))
def p1 (k : Nat) : Nat → T1 := iter fun f => t1 (p2 k f) (p3 k)
theorem o1 (k : Nat) : ∀ n, l1 true k n = p1 k n := oL (u := l1 false k) (by kernel_rfl) (fun n1 => (fx5 fun _ _ _ _ _ => lcL)) (fun n1 => by kernel_rfl) (fun n1 f h => (congr (congrArg t1 (o2 k n1 f h)) (o3 k)))
def t0 (f1 : T1) : T0 := fun a => (f1 a.1 a.2.1 ([] : List (List UInt8)) (0 : Int) (0 : Int))
def p0 (k : Nat) : T0 := t0 (p1 k k)
theorem o0 (k : Nat) : u0 k = p0 k := Eq.trans (by kernel_rfl) (congrArg t0 (o1 k k))
end ref10_cut
def s_ref10_cut (a : D38) : Option D26 := ref10_cut.p0 fuel a
def F_ref10_cut : FSpec cx.toNm := { ps := [.val .str, .val (.int .u8)], nres := 1, rt := t5, rm := .ro, f := s_ref10_cut }
theorem ok_ref10_cut : FnOk Tryz.prog F_ref10_cut 33 := fn_of (F := F_ref10_cut) (hn := ref10_cut.h) (E := ref10_cut.E) cxOk (tysT _ _ _) fs_nil follows Tryz.func33 (by kernel_rfl) (fun a r h => ⟨fuel, (congrFun (ref10_cut.o0 fuel) a).trans ((by kernel_rfl : s_ref10_cut a = F_ref10_cut.f a).trans h)⟩)
namespace ref10_Right
def E : Env cx := { tys := tys, fs := fsOf [(11, F_ref10_Name), (32, F_ref01_Whole), (33, F_ref10_cut), (34, F_ref10_names), (35, F_ref10_Arity)] }
abbrev R := Option (D19)
def h : Hint := { vs := [0, 1, 2, 3, 4, 5, 6, 7, 8, 9], ret := ([2], [1, 4]), cuts := [(2, ([1, 36], [1]), ([1], [1])), (3, ([1], [1]), ([1], [1])), (4, ([1, 3], [1]), ([1], [1])), (5, ([1, 3], [1]), ([1, 3], [1])), (8, ([1, 3, 80], [1]), ([1, 3], [1])), (9, ([1], [1]), ([1], [1])), (10, ([1, 5], [1]), ([1], [1])), (11, ([1, 5], [1]), ([1, 5], [1])), (13, ([1, 5, 115], [1]), ([1, 5], [1])), (14, ([1], [1]), ([1], [1])), (15, ([1, 6], [1]), ([], [])), (16, ([1, 6], [1]), ([1, 6], [1])), (20, ([1, 6, 157], [1]), ([1, 6], [1])), (21, ([], []), ([], []))] }
def W : Pr cx (D19) := ⟨E, h, bodyC Tryz.f9, fin (S := cx) E Tryz.f9.results.toList .bool .ro [] []⟩
abbrev T6 := Int → D11 → R
abbrev T4 := Int → Bool → D11 → R
abbrev T10 := Int → D11 → R
abbrev T8 := Int → Bool → D11 → R
abbrev T14 := Int → D11 → R
abbrev T12 := Int → Bool → D11 → R
abbrev T13 := R
abbrev T11 := Int → D11 → R
abbrev T9 := D11 → R
abbrev T7 := Int → D11 → R
abbrev T5 := D11 → R
abbrev T3 := Int → D11 → R
abbrev T2 := D11 → R
abbrev T1 := Bool → D11 → R
abbrev T0 := D21 → R
def u0 (k : Nat) : T0 := fun a => runOf (S := cx) E h k Tryz.f9 [.val t15] .bool .ro a
abbrev l6 (c : Bool) (k n3 : Nat) : T6 := fun x3 m1 => lfR c W k [1, 1, 0, 1, 0, 0, 1, 1] [n3] ⟨[(1, vA 1), (3, vI x3)], [], [(1, ⟨t15, .ro, m1⟩)]⟩
abbrev l4 (c : Bool) (k n3 : Nat) : T4 := fun x3 x80 m1 => lfR c W k [1, 1, 0, 1, 0, 0, 1, 0, 0, 1, 1] [n3] ⟨[(1, vA 1), (3, vI x3), (80, vB x80)], [], [(1, ⟨t15, .ro, m1⟩)]⟩
abbrev l10 (c : Bool) (k n7 : Nat) : T10 := fun x5 m1 => lfR c W k [1, 1, 1, 0, 1, 0, 0, 1, 1] [n7] ⟨[(1, vA 1), (5, vI x5)], [], [(1, ⟨t15, .ro, m1⟩)]⟩
abbrev l8 (c : Bool) (k n7 : Nat) : T8 := fun x5 x115 m1 => lfR c W k [1, 1, 1, 0, 1, 0, 0, 1, 0, 0, 1] [n7] ⟨[(1, vA 1), (5, vI x5), (115, vB x115)], [], [(1, ⟨t15, .ro, m1⟩)]⟩
abbrev l14 (c : Bool) (k n11 : Nat) : T14 := fun x6 m1 => lfR c W k [1, 1, 1, 1, 0, 1, 0, 0, 1, 1] [n11] ⟨[(1, vA 1), (6, vI x6)], [], [(1, ⟨t15, .ro, m1⟩)]⟩
abbrev l12 (c : Bool) (k n11 : Nat) : T12 := fun x6 x157 m1 => lfR c W k [1, 1, 1, 1, 0, 1, 0, 0, 1, 0, 0, 1, 1, 1] [n11] ⟨[(1, vA 1), (6, vI x6), (157, vB x157)], [], [(1, ⟨t15, .ro, m1⟩)]⟩
abbrev l13 (c : Bool) (k : Nat) : T13 := lfR c W k [1, 1, 1, 1, 1] [] ⟨[], [], []⟩
abbrev l11 (c : Bool) (k n11 : Nat) : T11 := fun x6 m1 => lfL c W k [1, 1, 1, 1, 0, 1, 0] [] n11 ⟨[(1, vA 1), (6, vI x6)], [], [(1, ⟨t15, .ro, m1⟩)]⟩
abbrev l9 (c : Bool) (k : Nat) : T9 := fun m1 => lfR c W k [1, 1, 1, 1] [] ⟨[(1, vA 1)], [], [(1, ⟨t15, .ro, m1⟩)]⟩
abbrev l7 (c : Bool) (k n7 : Nat) : T7 := fun x5 m1 => lfL c W k [1, 1, 1, 0, 1, 0] [] n7 ⟨[(1, vA 1), (5, vI x5)], [], [(1, ⟨t15, .ro, m1⟩)]⟩
abbrev l5 (c : Bool) (k : Nat) : T5 := fun m1 => lfR c W k [1, 1, 1] [] ⟨[(1, vA 1)], [], [(1, ⟨t15, .ro, m1⟩)]⟩
abbrev l3 (c : Bool) (k n3 : Nat) : T3 := fun x3 m1 => lfL c W k [1, 1, 0, 1, 0] [] n3 ⟨[(1, vA 1), (3, vI x3)], [], [(1, ⟨t15, .ro, m1⟩)]⟩
abbrev l2 (c : Bool) (k : Nat) : T2 := fun m1 => lfR c W k [1, 1] [] ⟨[(1, vA 1)], [], [(1, ⟨t15, .ro, m1⟩)]⟩
abbrev l1 (c : Bool) (k : Nat) : T1 := fun x36 m1 => lfR c W k [1, 0, 1] [] ⟨[(1, vA 1), (36, vB x36)], [], [(1, ⟨t15, .ro, m1⟩)]⟩
def t6 (f3 : T3) : T6 := fun x3 m1 => (f3 (w64 (x3 + (1 : Int))) m1)
def p6 (k : Nat) (a3 : T3) : T6 := t6 a3
theorem o6 (k n3 : Nat) (a3 : T3) (h3 : l3 true k n3 = a3) : l6 true k n3 = p6 k a3 := lfo (b := l6 false k n3) (fx2 fun _ _ => lcR) (by kernel_rfl) (congrArg t6 h3)
def t4 (f6 : T6) : T4 := fun x3 x80 m1 => (iteB x80 (some (false, ())) (f6 x3 m1))
def p4 (k : Nat) (a3 : T3) : T4 := t4 (p6 k a3)
theorem o4 (k n3 : Nat) (a3 : T3) (h3 : l3 true k n3 = a3) : l4 true k n3 = p4 k a3 := lfo (b := l4 false k n3) (fx3 fun _ _ _ => lcR) (by kernel_rfl) (congrArg t4 (o6 k n3 a3 h3))
def t10 (f7 : T7) : T10 := fun x5 m1 => (f7 (w64 (x5 + (1 : Int))) m1)
def p10 (k : Nat) (a7 : T7) : T10 := t10 a7
theorem o10 (k n7 : Nat) (a7 : T7) (h7 : l7 true k n7 = a7) : l10 true k n7 = p10 k a7 := lfo (b := l10 false k n7) (fx2 fun _ _ => lcR) (by kernel_rfl) (congrArg t10 h7)
def t8 (f10 : T10) : T8 := fun x5 x115 m1 => (iteB x115 (some (false, ())) (f10 x5 m1))
def p8 (k : Nat) (a7 : T7) : T8 := t8 (p10 k a7)
theorem o8 (k n7 : Nat) (a7 : T7) (h7 : l7 true k n7 = a7) : l8 true k n7 = p8 k a7 := lfo (b := l8 false k n7) (fx3 fun _ _ _ => lcR) (by kernel_rfl) (congrArg t8 (o10 k n7 a7 h7))
def t14 (f11 : T11) : T14 := fun x6 m1 => (f11 (w64 (x6 + (1 : Int))) m1)
def p14 (k : Nat) (a11 : T11) : T14 := t14 a11
theorem o14 (k n11 : Nat) (a11 : T11) (h11 : l11 true k n11 = a11) : l14 true k n11 = p14 k a11 := lfo (b := l14 false k n11) (fx2 fun _ _ => lcR) (by kernel_rfl) (congrArg t14 h11)
def t12 (f14 : T14) : T12 := fun x6 x157 m1 => (iteB x157 (some (false, ())) (f14 x6 m1))
def p12 (k : Nat) (a11 : T11) : T12 := t12 (p14 k a11)
theorem o12 (k n11 : Nat) (a11 : T11) (h11 : l11 true k n11 = a11) : l12 true k n11 = p12 k a11 := lfo (b := l12 false k n11) (fx3 fun _ _ _ => lcR) (by kernel_rfl) (congrArg t12 (o14 k n11 a11 h11))
def t13 : T13 := (some (true, ()))
def p13 (k : Nat) : T13 := t13
theorem o13 (k : Nat) : l13 true k = p13 k := lfo (b := l13 false k) lcR (by kernel_rfl) rfl
def t11 (f12 : T12) (f13 : T13) : T11 := fun x6 m1 => (iteB (decide (x6 < ((List.length m1.2.2.2 : Nat) : Int))) (withinR x6 (List.length m1.2.2.2) fun q11 => (bindR (s_ref10_Arity ((List.getD m1.2.2.2 q11 ((0 : Int), ([] : List (List UInt8)))).1, ())) fun r12 => (withinR x6 (List.length m1.2.2.2) fun q13 => (iteB (decide (((List.length (List.getD m1.2.2.2 q13 ((0 : Int), ([] : List (List UInt8)))).2 : Nat) : Int) < r12.1.1)) (f12 x6 true m1) (iteB (decide (r12.1.2 < ((List.length (List.getD m1.2.2.2 q13 ((0 : Int), ([] : List (List UInt8)))).2 : Nat) : Int))) (f12 x6 true m1) (withinR x6 (List.length m1.2.2.2) fun q14 => (bindR (s_ref10_names ((List.getD m1.2.2.2 q14 ((0 : Int), ([] : List (List UInt8)))).2, ())) fun r15 => (f12 x6 (notB r15.1) m1)))))))) f13)
def p11 (k : Nat) : Nat → T11 := iter fun f => t11 (p12 k f) (p13 k)
theorem o11 (k : Nat) : ∀ n, l11 true k n = p11 k n := oL (u := l11 false k) (by kernel_rfl) (fun n11 => (fx2 fun _ _ => lcL)) (fun n11 => by kernel_rfl) (fun n11 f h => (congr (congrArg t11 (o12 k n11 f h)) (o13 k)))
def t9 (f11 : T11) : T9 := fun m1 => (f11 (0 : Int) m1)
def p9 (k : Nat) : T9 := t9 (p11 k k)
theorem o9 (k : Nat) : l9 true k = p9 k := lfo (b := l9 false k) (fx1 fun _ => lcR) (by kernel_rfl) (congrArg t9 (o11 k k))
def t7 (f8 : T8) (f9 : T9) : T7 := fun x5 m1 => (iteB (decide (x5 < ((List.length m1.2.2.1 : Nat) : Int))) (withinR x5 (List.length m1.2.2.1) fun q6 => (bindR (s_ref10_Name ((List.getD m1.2.2.1 q6 (([] : List UInt8), ([] : List (List UInt8)))).1, ())) fun r7 => (iteB (notB r7.1) (f8 x5 true m1) (withinR x5 (List.length m1.2.2.1) fun q8 => (iteB (decide ((8 : Int) < ((List.length (List.getD m1.2.2.1 q8 (([] : List UInt8), ([] : List (List UInt8)))).2 : Nat) : Int))) (f8 x5 true m1) (withinR x5 (List.length m1.2.2.1) fun q9 => (bindR (s_ref10_names ((List.getD m1.2.2.1 q9 (([] : List UInt8), ([] : List (List UInt8)))).2, ())) fun r10 => (f8 x5 (notB r10.1) m1)))))))) (f9 m1))
def p7 (k : Nat) : Nat → T7 := iter fun f => t7 (p8 k f) (p9 k)
theorem o7 (k : Nat) : ∀ n, l7 true k n = p7 k n := oL (u := l7 false k) (by kernel_rfl) (fun n7 => (fx2 fun _ _ => lcL)) (fun n7 => by kernel_rfl) (fun n7 f h => (congr (congrArg t7 (o8 k n7 f h)) (o9 k)))
def t5 (f7 : T7) : T5 := fun m1 => (f7 (0 : Int) m1)
def p5 (k : Nat) : T5 := t5 (p7 k k)
theorem o5 (k : Nat) : l5 true k = p5 k := lfo (b := l5 false k) (fx1 fun _ => lcR) (by kernel_rfl) (congrArg t5 (o7 k k))
def t3 (f4 : T4) (f5 : T5) : T3 := fun x3 m1 => (iteB (decide (x3 < ((List.length m1.1 : Nat) : Int))) (withinR x3 (List.length m1.1) fun q2 => (bindR (s_ref10_Name ((List.getD m1.1 q2 (([] : List UInt8), (([] : List UInt8), (false, (0 : Int))))).1, ())) fun r3 => (iteB (notB r3.1) (f4 x3 true m1) (iteB (decide ((List.getD m1.1 q2 (([] : List UInt8), (([] : List UInt8), (false, (0 : Int))))).2.1 = ([] : List UInt8))) (f4 x3 true m1) (bindR (s_ref01_Whole ((List.getD m1.1 q2 (([] : List UInt8), (([] : List UInt8), (false, (0 : Int))))).2.1, ())) fun r4 => (iteB (notB r4.1) (f4 x3 true m1) (bindR (s_ref10_cut ((List.getD m1.1 q2 (([] : List UInt8), (([] : List UInt8), (false, (0 : Int))))).2.1, ((10 : Int), ()))) fun r5 => (iteB (decide ((1 : Int) < ((List.length r5.1 : Nat) : Int))) (f4 x3 true m1) (iteB (decide ((List.getD m1.1 q2 (([] : List UInt8), (([] : List UInt8), (false, (0 : Int))))).2.2.2 < (0 : Int))) (f4 x3 true m1) (f4 x3 (decide ((9 : Int) < (List.getD m1.1 q2 (([] : List UInt8), (([] : List UInt8), (false, (0 : Int))))).2.2.2)) m1)))))))))) (f5 m1))
def p3 (k : Nat) : Nat → T3 := iter fun f => t3 (p4 k f) (p5 k)
theorem o3 (k : Nat) : ∀ n, l3 true k n = p3 k n := oL (u := l3 false k) (by kernel_rfl) (fun n3 => (fx2 fun _ _ => lcL)) (fun n3 => by kernel_rfl) (fun n3 f h => (congr (congrArg t3 (o4 k n3 f h)) (o5 k)))
def t2 (f3 : T3) : T2 := fun m1 => (f3 (0 : Int) m1)
def p2 (k : Nat) : T2 := t2 (p3 k k)
theorem o2 (k : Nat) : l2 true k = p2 k := lfo (b := l2 false k) (fx1 fun _ => lcR) (by kernel_rfl) (congrArg t2 (o3 k k))
def t1 (f2 : T2) : T1 := fun x36 m1 => (iteB x36 (some (false, ())) (f2 m1))
def p1 (k : Nat) : T1 := t1 (p2 k)
theorem o1 (k : Nat) : l1 true k = p1 k := lfo (b := l1 false k) (fx2 fun _ _ => lcR) (by kernel_rfl) (congrArg t1 (o2 k))
def t0 (f1 : T1) : T0 := fun a => (iteB (decide ((32 : Int) < ((List.length a.1.1 : Nat) : Int))) (f1 true a.1) (iteB (decide ((64 : Int) < ((List.length a.1.2.2.1 : Nat) : Int))) (f1 true a.1) (iteB (decide ((16 : Int) < ((List.length a.1.2.2.2 : Nat) : Int))) (f1 true a.1) (iteB (!(decide (a.1.2.1 = ([] : List UInt8)))) (bindR (s_ref10_Name (a.1.2.1, ())) fun r1 => (f1 (notB r1.1) a.1)) (f1 false a.1)))))
def p0 (k : Nat) : T0 := t0 (p1 k)
theorem o0 (k : Nat) : u0 k = p0 k := Eq.trans (by kernel_rfl) (congrArg t0 (o1 k))
end ref10_Right
def s_ref10_Right (a : D21) : Option D19 := ref10_Right.p0 fuel a
def F_ref10_Right : FSpec cx.toNm := { ps := [.val t15], nres := 1, rt := .bool, rm := .ro, f := s_ref10_Right }
theorem ok_ref10_Right : FnOk Tryz.prog F_ref10_Right 9 := fn_of (F := F_ref10_Right) (hn := ref10_Right.h) (E := ref10_Right.E) cxOk (tysT _ _ _) (fs_cons ok_ref10_Name (fs_cons ok_ref01_Whole (fs_cons ok_ref10_cut (fs_cons ok_ref10_names (fs_cons ok_ref10_Arity fs_nil))))) follows Tryz.func9 (by kernel_rfl) (fun a r h => ⟨fuel, (congrFun (ref10_Right.o0 fuel) a).trans ((by kernel_rfl : s_ref10_Right a = F_ref10_Right.f a).trans h)⟩)
namespace ref10_texts
def E : Env cx := { tys := tys, fs := fsOf [] }
abbrev R := Option (D19)
def h : Hint := { vs := [0, 1, 4, 5], ret := ([4], []), cuts := [(4, ([0, 1, 5], []), ([], [])), (8, ([], []), ([], []))] }
def W : Pr cx (D19) := ⟨E, h, bodyC Tryz.f39, fin (S := cx) E Tryz.f39.results.toList .bool .ro [] []⟩
abbrev T2 := R
abbrev T1 := D4 → D4 → Int → R
abbrev T0 := D40 → R
def u0 (k : Nat) : T0 := fun a => runOf (S := cx) E h k Tryz.f39 [.val t5, .val t5] .bool .ro a
abbrev l2 (c : Bool) (k : Nat) : T2 := lfR c W k [1, 1, 1] [] ⟨[], [], []⟩
abbrev l1 (c : Bool) (k n1 : Nat) : T1 := fun x0 x1 x5 => lfL c W k [1, 1, 0, 1, 0] [] n1 ⟨[(0, vR t5 x0), (1, vR t5 x1), (5, vI x5)], [], []⟩
def t2 : T2 := (some (true, ()))
def p2 (k : Nat) : T2 := t2
theorem o2 (k : Nat) : l2 true k = p2 k := lfo (b := l2 false k) lcR (by kernel_rfl) rfl
def t1 (f1 : T1) (f2 : T2) : T1 := fun x0 x1 x5 => (iteB (decide (x5 < ((List.length x0 : Nat) : Int))) (withinR x5 (List.length x0) fun q1 => (withinR x5 (List.length x1) fun q2 => (iteB (!(decide ((List.getD x0 q1 ([] : List UInt8)) = (List.getD x1 q2 ([] : List UInt8))))) (some (false, ())) (f1 x0 x1 (w64 (x5 + (1 : Int))))))) f2)
def p1 (k : Nat) : Nat → T1 := iter fun f => t1 f (p2 k)
theorem o1 (k : Nat) : ∀ n, l1 true k n = p1 k n := oL (u := l1 false k) (by kernel_rfl) (fun n1 => (fx3 fun _ _ _ => lcL)) (fun n1 => by kernel_rfl) (fun n1 f h => (congr (congrArg t1 h) (o2 k)))
def t0 (f1 : T1) : T0 := fun a => (iteB (!decide (((List.length a.1 : Nat) : Int) = ((List.length a.2.1 : Nat) : Int))) (some (false, ())) (f1 a.1 a.2.1 (0 : Int)))
def p0 (k : Nat) : T0 := t0 (p1 k k)
theorem o0 (k : Nat) : u0 k = p0 k := Eq.trans (by kernel_rfl) (congrArg t0 (o1 k k))
end ref10_texts
def s_ref10_texts (a : D40) : Option D19 := ref10_texts.p0 fuel a
def F_ref10_texts : FSpec cx.toNm := { ps := [.val t5, .val t5], nres := 1, rt := .bool, rm := .ro, f := s_ref10_texts }
theorem ok_ref10_texts : FnOk Tryz.prog F_ref10_texts 39 := fn_of (F := F_ref10_texts) (hn := ref10_texts.h) (E := ref10_texts.E) cxOk (tysT _ _ _) fs_nil follows Tryz.func39 (by kernel_rfl) (fun a r h => ⟨fuel, (congrFun (ref10_texts.o0 fuel) a).trans ((by kernel_rfl : s_ref10_texts a = F_ref10_texts.f a).trans h)⟩)
namespace ref10_Same
def E : Env cx := { tys := tys, fs := fsOf [(39, F_ref10_texts)] }
abbrev R := Option (D19)
def h : Hint := { vs := [0, 1, 2, 3, 4, 5, 6, 7], ret := ([4], [2, 3]), cuts := [(2, ([2, 3, 39], [2, 3]), ([2, 3], [2, 3])), (3, ([2, 3], [2, 3]), ([2, 3], [2, 3])), (4, ([2, 3, 5], [2, 3]), ([2, 3], [2, 3])), (8, ([2, 3], [2, 3]), ([2, 3], [2, 3])), (9, ([2, 3, 6], [2, 3]), ([2, 3], [2, 3])), (10, ([2, 3, 6], [2, 3]), ([2, 3, 6], [2, 3])), (12, ([2, 3, 6, 93], [2, 3]), ([2, 3, 6], [2, 3])), (13, ([2, 3], [2, 3]), ([2, 3], [2, 3])), (14, ([2, 3, 7], [2, 3]), ([], [])), (15, ([2, 3, 7], [2, 3]), ([2, 3, 7], [2, 3])), (17, ([2, 3, 7, 129], [2, 3]), ([2, 3, 7], [2, 3])), (18, ([], []), ([], []))] }
def W : Pr cx (D19) := ⟨E, h, bodyC Tryz.f14, fin (S := cx) E Tryz.f14.results.toList .bool .ro [] []⟩
abbrev T8 := Int → D11 → D11 → R
abbrev T6 := Int → Bool → D11 → D11 → R
abbrev T12 := Int → D11 → D11 → R
abbrev T10 := Int → Bool → D11 → D11 → R
abbrev T11 := R
abbrev T9 := Int → D11 → D11 → R
abbrev T7 := D11 → D11 → R
abbrev T5 := Int → D11 → D11 → R
abbrev T4 := D11 → D11 → R
abbrev T3 := Int → D11 → D11 → R
abbrev T2 := D11 → D11 → R
abbrev T1 := Bool → D11 → D11 → R
abbrev T0 := D36 → R
def u0 (k : Nat) : T0 := fun a => runOf (S := cx) E h k Tryz.f14 [.val t15, .val t15] .bool .ro a
abbrev l8 (c : Bool) (k n5 : Nat) : T8 := fun x6 m2 m3 => lfR c W k [1, 1, 1, 0, 1, 0, 0, 1, 1] [n5] ⟨[(2, vA 2), (3, vA 3), (6, vI x6)], [], [(2, ⟨t15, .ro, m2⟩), (3, ⟨t15, .ro, m3⟩)]⟩
abbrev l6 (c : Bool) (k n5 : Nat) : T6 := fun x6 x93 m2 m3 => lfR c W k [1, 1, 1, 0, 1, 0, 0, 1, 0, 0, 1] [n5] ⟨[(2, vA 2), (3, vA 3), (6, vI x6), (93, vB x93)], [], [(2, ⟨t15, .ro, m2⟩), (3, ⟨t15, .ro, m3⟩)]⟩
abbrev l12 (c : Bool) (k n9 : Nat) : T12 := fun x7 m2 m3 => lfR c W k [1, 1, 1, 1, 0, 1, 0, 0, 1, 1] [n9] ⟨[(2, vA 2), (3, vA 3), (7, vI x7)], [], [(2, ⟨t15, .ro, m2⟩), (3, ⟨t15, .ro, m3⟩)]⟩
abbrev l10 (c : Bool) (k n9 : Nat) : T10 := fun x7 x129 m2 m3 => lfR c W k [1, 1, 1, 1, 0, 1, 0, 0, 1, 0, 0, 1] [n9] ⟨[(2, vA 2), (3, vA 3), (7, vI x7), (129, vB x129)], [], [(2, ⟨t15, .ro, m2⟩), (3, ⟨t15, .ro, m3⟩)]⟩
abbrev l11 (c : Bool) (k : Nat) : T11 := lfR c W k [1, 1, 1, 1, 1] [] ⟨[], [], []⟩
abbrev l9 (c : Bool) (k n9 : Nat) : T9 := fun x7 m2 m3 => lfL c W k [1, 1, 1, 1, 0, 1, 0] [] n9 ⟨[(2, vA 2), (3, vA 3), (7, vI x7)], [], [(2, ⟨t15, .ro, m2⟩), (3, ⟨t15, .ro, m3⟩)]⟩
abbrev l7 (c : Bool) (k : Nat) : T7 := fun m2 m3 => lfR c W k [1, 1, 1, 1] [] ⟨[(2, vA 2), (3, vA 3)], [], [(2, ⟨t15, .ro, m2⟩), (3, ⟨t15, .ro, m3⟩)]⟩
abbrev l5 (c : Bool) (k n5 : Nat) : T5 := fun x6 m2 m3 => lfL c W k [1, 1, 1, 0, 1, 0] [] n5 ⟨[(2, vA 2), (3, vA 3), (6, vI x6)], [], [(2, ⟨t15, .ro, m2⟩), (3, ⟨t15, .ro, m3⟩)]⟩
abbrev l4 (c : Bool) (k : Nat) : T4 := fun m2 m3 => lfR c W k [1, 1, 1] [] ⟨[(2, vA 2), (3, vA 3)], [], [(2, ⟨t15, .ro, m2⟩), (3, ⟨t15, .ro, m3⟩)]⟩
abbrev l3 (c : Bool) (k n3 : Nat) : T3 := fun x5 m2 m3 => lfL c W k [1, 1, 0, 1, 0] [] n3 ⟨[(2, vA 2), (3, vA 3), (5, vI x5)], [], [(2, ⟨t15, .ro, m2⟩), (3, ⟨t15, .ro, m3⟩)]⟩
abbrev l2 (c : Bool) (k : Nat) : T2 := fun m2 m3 => lfR c W k [1, 1] [] ⟨[(2, vA 2), (3, vA 3)], [], [(2, ⟨t15, .ro, m2⟩), (3, ⟨t15, .ro, m3⟩)]⟩
abbrev l1 (c : Bool) (k : Nat) : T1 := fun x39 m2 m3 => lfR c W k [1, 0, 1] [] ⟨[(2, vA 2), (3, vA 3), (39, vB x39)], [], [(2, ⟨t15, .ro, m2⟩), (3, ⟨t15, .ro, m3⟩)]⟩
def t8 (f5 : T5) : T8 := fun x6 m2 m3 => (f5 (w64 (x6 + (1 : Int))) m2 m3)
def p8 (k : Nat) (a5 : T5) : T8 := t8 a5
theorem o8 (k n5 : Nat) (a5 : T5) (h5 : l5 true k n5 = a5) : l8 true k n5 = p8 k a5 := lfo (b := l8 false k n5) (fx3 fun _ _ _ => lcR) (by kernel_rfl) (congrArg t8 h5)
def t6 (f8 : T8) : T6 := fun x6 x93 m2 m3 => (iteB x93 (some (false, ())) (f8 x6 m2 m3))
def p6 (k : Nat) (a5 : T5) : T6 := t6 (p8 k a5)
theorem o6 (k n5 : Nat) (a5 : T5) (h5 : l5 true k n5 = a5) : l6 true k n5 = p6 k a5 := lfo (b := l6 false k n5) (fx4 fun _ _ _ _ => lcR) (by kernel_rfl) (congrArg t6 (o8 k n5 a5 h5))
def t12 (f9 : T9) : T12 := fun x7 m2 m3 => (f9 (w64 (x7 + (1 : Int))) m2 m3)
def p12 (k : Nat) (a9 : T9) : T12 := t12 a9
theorem o12 (k n9 : Nat) (a9 : T9) (h9 : l9 true k n9 = a9) : l12 true k n9 = p12 k a9 := lfo (b := l12 false k n9) (fx3 fun _ _ _ => lcR) (by kernel_rfl) (congrArg t12 h9)
def t10 (f12 : T12) : T10 := fun x7 x129 m2 m3 => (iteB x129 (some (false, ())) (f12 x7 m2 m3))
def p10 (k : Nat) (a9 : T9) : T10 := t10 (p12 k a9)
theorem o10 (k n9 : Nat) (a9 : T9) (h9 : l9 true k n9 = a9) : l10 true k n9 = p10 k a9 := lfo (b := l10 false k n9) (fx4 fun _ _ _ _ => lcR) (by kernel_rfl) (congrArg t10 (o12 k n9 a9 h9))
def t11 : T11 := (some (true, ()))
def p11 (k : Nat) : T11 := t11
theorem o11 (k : Nat) : l11 true k = p11 k := lfo (b := l11 false k) lcR (by kernel_rfl) rfl
def t9 (f10 : T10) (f11 : T11) : T9 := fun x7 m2 m3 => (iteB (decide (x7 < ((List.length m2.2.2.2 : Nat) : Int))) (withinR x7 (List.length m2.2.2.2) fun q8 => (withinR x7 (List.length m3.2.2.2) fun q9 => (iteB (!decide ((List.getD m2.2.2.2 q8 ((0 : Int), ([] : List (List UInt8)))).1 = (List.getD m3.2.2.2 q9 ((0 : Int), ([] : List (List UInt8)))).1)) (f10 x7 true m2 m3) (withinR x7 (List.length m2.2.2.2) fun q10 => (withinR x7 (List.length m3.2.2.2) fun q11 => (bindR (s_ref10_texts ((List.getD m2.2.2.2 q10 ((0 : Int), ([] : List (List UInt8)))).2, ((List.getD m3.2.2.2 q11 ((0 : Int), ([] : List (List UInt8)))).2, ()))) fun r12 => (f10 x7 (notB r12.1) m2 m3))))))) f11)
def p9 (k : Nat) : Nat → T9 := iter fun f => t9 (p10 k f) (p11 k)
theorem o9 (k : Nat) : ∀ n, l9 true k n = p9 k n := oL (u := l9 false k) (by kernel_rfl) (fun n9 => (fx3 fun _ _ _ => lcL)) (fun n9 => by kernel_rfl) (fun n9 f h => (congr (congrArg t9 (o10 k n9 f h)) (o11 k)))
def t7 (f9 : T9) : T7 := fun m2 m3 => (f9 (0 : Int) m2 m3)
def p7 (k : Nat) : T7 := t7 (p9 k k)
theorem o7 (k : Nat) : l7 true k = p7 k := lfo (b := l7 false k) (fx2 fun _ _ => lcR) (by kernel_rfl) (congrArg t7 (o9 k k))
def t5 (f6 : T6) (f7 : T7) : T5 := fun x6 m2 m3 => (iteB (decide (x6 < ((List.length m2.2.2.1 : Nat) : Int))) (withinR x6 (List.length m2.2.2.1) fun q3 => (withinR x6 (List.length m3.2.2.1) fun q4 => (iteB (!(decide ((List.getD m2.2.2.1 q3 (([] : List UInt8), ([] : List (List UInt8)))).1 = (List.getD m3.2.2.1 q4 (([] : List UInt8), ([] : List (List UInt8)))).1))) (f6 x6 true m2 m3) (withinR x6 (List.length m2.2.2.1) fun q5 => (withinR x6 (List.length m3.2.2.1) fun q6 => (bindR (s_ref10_texts ((List.getD m2.2.2.1 q5 (([] : List UInt8), ([] : List (List UInt8)))).2, ((List.getD m3.2.2.1 q6 (([] : List UInt8), ([] : List (List UInt8)))).2, ()))) fun r7 => (f6 x6 (notB r7.1) m2 m3))))))) (f7 m2 m3))
def p5 (k : Nat) : Nat → T5 := iter fun f => t5 (p6 k f) (p7 k)
theorem o5 (k : Nat) : ∀ n, l5 true k n = p5 k n := oL (u := l5 false k) (by kernel_rfl) (fun n5 => (fx3 fun _ _ _ => lcL)) (fun n5 => by kernel_rfl) (fun n5 f h => (congr (congrArg t5 (o6 k n5 f h)) (o7 k)))
def t4 (f5 : T5) : T4 := fun m2 m3 => (f5 (0 : Int) m2 m3)
def p4 (k : Nat) : T4 := t4 (p5 k k)
theorem o4 (k : Nat) : l4 true k = p4 k := lfo (b := l4 false k) (fx2 fun _ _ => lcR) (by kernel_rfl) (congrArg t4 (o5 k k))
def t3 (f3 : T3) (f4 : T4) : T3 := fun x5 m2 m3 => (iteB (decide (x5 < ((List.length m2.1 : Nat) : Int))) (withinR x5 (List.length m2.1) fun q1 => (withinR x5 (List.length m3.1) fun q2 => (iteB (!((decide ((List.getD m2.1 q1 (([] : List UInt8), (([] : List UInt8), (false, (0 : Int))))).1 = (List.getD m3.1 q2 (([] : List UInt8), (([] : List UInt8), (false, (0 : Int))))).1)) && ((decide ((List.getD m2.1 q1 (([] : List UInt8), (([] : List UInt8), (false, (0 : Int))))).2.1 = (List.getD m3.1 q2 (([] : List UInt8), (([] : List UInt8), (false, (0 : Int))))).2.1)) && (((List.getD m2.1 q1 (([] : List UInt8), (([] : List UInt8), (false, (0 : Int))))).2.2.1 == (List.getD m3.1 q2 (([] : List UInt8), (([] : List UInt8), (false, (0 : Int))))).2.2.1) && (decide ((List.getD m2.1 q1 (([] : List UInt8), (([] : List UInt8), (false, (0 : Int))))).2.2.2 = (List.getD m3.1 q2 (([] : List UInt8), (([] : List UInt8), (false, (0 : Int))))).2.2.2)))))) (some (false, ())) (f3 (w64 (x5 + (1 : Int))) m2 m3)))) (f4 m2 m3))
def p3 (k : Nat) : Nat → T3 := iter fun f => t3 f (p4 k)
theorem o3 (k : Nat) : ∀ n, l3 true k n = p3 k n := oL (u := l3 false k) (by kernel_rfl) (fun n3 => (fx3 fun _ _ _ => lcL)) (fun n3 => by kernel_rfl) (fun n3 f h => (congr (congrArg t3 h) (o4 k)))
def t2 (f3 : T3) : T2 := fun m2 m3 => (f3 (0 : Int) m2 m3)
def p2 (k : Nat) : T2 := t2 (p3 k k)
theorem o2 (k : Nat) : l2 true k = p2 k := lfo (b := l2 false k) (fx2 fun _ _ => lcR) (by kernel_rfl) (congrArg t2 (o3 k k))
def t1 (f2 : T2) : T1 := fun x39 m2 m3 => (iteB x39 (some (false, ())) (f2 m2 m3))
def p1 (k : Nat) : T1 := t1 (p2 k)
theorem o1 (k : Nat) : l1 true k = p1 k := lfo (b := l1 false k) (fx3 fun _ _ _ => lcR) (by kernel_rfl) (congrArg t1 (o2 k))
def t0 (f1 : T1) : T0 := fun a => (iteB (!decide (((List.length a.1.1 : Nat) : Int) = ((List.length a.2.1.1 : Nat) : Int))) (f1 true a.1 a.2.1) (iteB (!decide (((List.length a.1.2.2.1 : Nat) : Int) = ((List.length a.2.1.2.2.1 : Nat) : Int))) (f1 true a.1 a.2.1) (iteB (!decide (((List.length a.1.2.2.2 : Nat) : Int) = ((List.length a.2.1.2.2.2 : Nat) : Int))) (f1 true a.1 a.2.1) (f1 (!(decide (a.1.2.1 = a.2.1.2.1))) a.1 a.2.1))))
def p0 (k : Nat) : T0 := t0 (p1 k)
theorem o0 (k : Nat) : u0 k = p0 k := Eq.trans (by kernel_rfl) (congrArg t0 (o1 k))
end ref10_Same
def s_ref10_Same (a : D36) : Option D19 := ref10_Same.p0 fuel a
def F_ref10_Same : FSpec cx.toNm := { ps := [.val t15, .val t15], nres := 1, rt := .bool, rm := .ro, f := s_ref10_Same }
theorem ok_ref10_Same : FnOk Tryz.prog F_ref10_Same 14 := fn_of (F := F_ref10_Same) (hn := ref10_Same.h) (E := ref10_Same.E) cxOk (tysT _ _ _) (fs_cons ok_ref10_texts fs_nil) follows Tryz.func14 (by kernel_rfl) (fun a r h => ⟨fuel, (congrFun (ref10_Same.o0 fuel) a).trans ((by kernel_rfl : s_ref10_Same a = F_ref10_Same.f a).trans h)⟩)
namespace law10_GramBack
def E : Env cx := { tys := tys, fs := fsOf [(5, F_law10_alive), (6, F_law10_Great), (7, F_Text), (9, F_ref10_Right), (13, F_gram_Read), (14, F_ref10_Same)] }
abbrev R := Option (D19)
def h : Hint := { vs := [0, 1, 2, 3, 4, 5, 6, 7, 8], ret := ([2], [1, 7]), cuts := [(4, ([1, 17], [1]), ([1], [1])), (5, ([1], [1]), ([1], [1])), (6, ([1, 3], [1]), ([1], [1])), (7, ([1, 3], [1]), ([1, 3], [1])), (9, ([1, 3, 4], [1]), ([1, 3], [1])), (13, ([1], [1]), ([1], [1]))] }
def W : Pr cx (D19) := ⟨E, h, bodyC Tryz.f4, fin (S := cx) E Tryz.f4.results.toList .bool .ro [] []⟩
abbrev T6 := Int → D11 → R
abbrev T4 := Int → Int → D11 → R
abbrev T5 := D11 → R
abbrev T3 := Int → D11 → R
abbrev T2 := D11 → R
abbrev T1 := Bool → D11 → R
abbrev T0 := D21 → R
def u0 (k : Nat) : T0 := fun a => runOf (S := cx) E h k Tryz.f4 [.val t15] .bool .ro a
abbrev l6 (c : Bool) (k n3 : Nat) : T6 := fun x3 m1 => lfR c W k [1, 1, 1, 0, 1, 0, 0, 1, 1] [n3] ⟨[(1, vA 1), (3, vI x3)], [], [(1, ⟨t15, .ro, m1⟩)]⟩
abbrev l4 (c : Bool) (k n3 n4 : Nat) : T4 := fun x3 x4 m1 => lfL c W k [1, 1, 1, 0, 1, 0, 0, 1, 0, 0, 1, 0] [n3] n4 ⟨[(1, vA 1), (3, vI x3), (4, vI x4)], [], [(1, ⟨t15, .ro, m1⟩)]⟩
abbrev l5 (c : Bool) (k : Nat) : T5 := fun m1 => lfR c W k [1, 1, 1, 1] [] ⟨[(1, vA 1)], [], [(1, ⟨t15, .ro, m1⟩)]⟩
abbrev l3 (c : Bool) (k n3 : Nat) : T3 := fun x3 m1 => lfL c W k [1, 1, 1, 0, 1, 0] [] n3 ⟨[(1, vA 1), (3, vI x3)], [], [(1, ⟨t15, .ro, m1⟩)]⟩
abbrev l2 (c : Bool) (k : Nat) : T2 := fun m1 => lfR c W k [1, 1, 1] [] ⟨[(1, vA 1)], [], [(1, ⟨t15, .ro, m1⟩)]⟩
abbrev l1 (c : Bool) (k : Nat) : T1 := fun x17 m1 => lfR c W k [1, 1, 0, 1] [] ⟨[(1, vA 1), (17, vB x17)], [], [(1, ⟨t15, .ro, m1⟩)]⟩
def t6 (f3 : T3) : T6 := fun x3 m1 => (f3 (w64 (x3 + (1 : Int))) m1)
def p6 (k : Nat) (a3 : T3) : T6 := t6 a3
theorem o6 (k n3 : Nat) (a3 : T3) (h3 : l3 true k n3 = a3) : l6 true k n3 = p6 k a3 := lfo (b := l6 false k n3) (fx2 fun _ _ => lcR) (by kernel_rfl) (congrArg t6 h3)
def t4 (f4 : T4) (f6 : T6) : T4 := fun x3 x4 m1 => (iteB (decide (x4 < x3)) (withinR x4 (List.length m1.1) fun q4 => (withinR x3 (List.length m1.1) fun q5 => (iteB (decide ((List.getD m1.1 q4 (([] : List UInt8), (([] : List UInt8), (false, (0 : Int))))).1 = (List.getD m1.1 q5 (([] : List UInt8), (([] : List UInt8), (false, (0 : Int))))).1)) (some (true, ())) (f4 x3 (w64 (x4 + (1 : Int))) m1)))) (f6 x3 m1))
def p4 (k : Nat) (a3 : T3) : Nat → T4 := iter fun f => t4 f (p6 k a3)
theorem o4 (k n3 : Nat) (a3 : T3) (h3 : l3 true k n3 = a3) : ∀ n, l4 true k n3 n = p4 k a3 n := oL (u := l4 false k n3) (by kernel_rfl) (fun n4 => (fx3 fun _ _ _ => lcL)) (fun n4 => by kernel_rfl) (fun n4 f h => (congr (congrArg t4 h) (o6 k n3 a3 h3)))
def t5 : T5 := fun m1 => (bindR (s_Text (m1, ())) fun r6 => (iteB (!decide (r6.1.2 = (0 : Int))) (some ((decide (r6.1.2 = (4 : Int))), ())) (bindR (s_gram_Read (r6.1.1, ())) fun r7 => (iteB (decide (r7.1.2 = (0 : Int))) (bindR (s_ref10_Same (m1, (r7.1.1, ()))) fun r8 => (some (r8.1, ()))) (some (false, ()))))))
def p5 (k : Nat) : T5 := t5
theorem o5 (k : Nat) : l5 true k = p5 k := lfo (b := l5 false k) (fx1 fun _ => lcR) (by kernel_rfl) rfl
def t3 (f4 : T4) (f5 : T5) : T3 := fun x3 m1 => (iteB (decide (x3 < ((List.length m1.1 : Nat) : Int))) (f4 x3 (0 : Int) m1) (f5 m1))
def p3 (k : Nat) : Nat → T3 := iter fun f => t3 (p4 k f k) (p5 k)
theorem o3 (k : Nat) : ∀ n, l3 true k n = p3 k n := oL (u := l3 false k) (by kernel_rfl) (fun n3 => (fx2 fun _ _ => lcL)) (fun n3 => by kernel_rfl) (fun n3 f h => (congr (congrArg t3 (o4 k n3 f h k)) (o5 k)))
def t2 (f3 : T3) : T2 := fun m1 => (f3 (0 : Int) m1)
def p2 (k : Nat) : T2 := t2 (p3 k k)
theorem o2 (k : Nat) : l2 true k = p2 k := lfo (b := l2 false k) (fx1 fun _ => lcR) (by kernel_rfl) (congrArg t2 (o3 k k))
def t1 (f2 : T2) : T1 := fun x17 m1 => (iteB x17 (some (true, ())) (f2 m1))
def p1 (k : Nat) : T1 := t1 (p2 k)
theorem o1 (k : Nat) : l1 true k = p1 k := lfo (b := l1 false k) (fx2 fun _ _ => lcR) (by kernel_rfl) (congrArg t1 (o2 k))
def t0 (f1 : T1) : T0 := fun a => (bindR (s_law10_alive ()) fun r1 => (iteB (notB r1.1) (some (false, ())) (bindR (s_law10_Great (a.1, ())) fun r2 => (iteB r2.1 (f1 true a.1) (bindR (s_ref10_Right (a.1, ())) fun r3 => (f1 (notB r3.1) a.1))))))
def p0 (k : Nat) : T0 := t0 (p1 k)
theorem o0 (k : Nat) : u0 k = p0 k := Eq.trans (by kernel_rfl) (congrArg t0 (o1 k))
end law10_GramBack
def s_law10_GramBack (a : D21) : Option D19 := law10_GramBack.p0 fuel a
def F_law10_GramBack : FSpec cx.toNm := { ps := [.val t15], nres := 1, rt := .bool, rm := .ro, f := s_law10_GramBack }
theorem ok_law10_GramBack : FnOk Tryz.prog F_law10_GramBack 4 := fn_of (F := F_law10_GramBack) (hn := law10_GramBack.h) (E := law10_GramBack.E) cxOk (tysT _ _ _) (fs_cons ok_law10_alive (fs_cons ok_law10_Great (fs_cons ok_Text (fs_cons ok_ref10_Right (fs_cons ok_gram_Read (fs_cons ok_ref10_Same fs_nil)))))) follows Tryz.func4 (by kernel_rfl) (fun a r h => ⟨fuel, (congrFun (law10_GramBack.o0 fuel) a).trans ((by kernel_rfl : s_law10_GramBack a = F_law10_GramBack.f a).trans h)⟩)
end
end Go.Proofs.YtogipciicekmoaaGreatDoor.Vm.Gz
