/- What the functions that read a line compute, as plain functions; that they do. -/
import Derived.Test.YtogipciicekmoaaGreatDoorLib
import Derived.KernelRfl
import Derived.Test.YtogipciicekmoaaGreatDoorVm3
import Derived.MapKept
namespace Go.Proofs.YtogipciicekmoaaGreatDoor.Vm.Gz
open Go Go.Proofs.YtogipciicekmoaaGreatDoor.Vm Go.Proofs
set_option linter.unusedVariables false
set_option maxRecDepth 100000
noncomputable section
namespace internal_stringslite_Cut
def E : Env cx := { tys := tys, fs := fsOf [(77, F_stringslite_Index)] }
abbrev R := Option (D25)
def h : Hint := { vs := [0, 1, 4, 5, 6, 7], ret := ([4, 5, 6], []) }
def W : Pr cx (D25) := ⟨E, h, bodyC Tryz.f96, fin (S := cx) E Tryz.f96.results.toList t19 .ro [] []⟩
abbrev T0 := D20 → R
def u0 (k : Nat) : T0 := fun a => runOf (S := cx) E h k Tryz.f96 [.val .str, .val .str] t19 .ro a
def t0 : T0 := fun a => (bindR (s_stringslite_Index (a.1, (a.2.1, ()))) fun r1 => (iteB (decide ((0 : Int) ≤ r1.1)) (mustR (decide (0 ≤ r1.1)) (mustR (decide (r1.1 ≤ (((List.length a.1) : Nat) : Int))) (mustR (decide (0 ≤ (w64 (r1.1 + ((List.length a.2.1 : Nat) : Int))))) (mustR (decide ((w64 (r1.1 + ((List.length a.2.1 : Nat) : Int))) ≤ (((List.length a.1) : Nat) : Int))) (some (((List.drop 0 (List.take (Int.toNat r1.1) a.1)), ((List.drop (Int.toNat (w64 (r1.1 + ((List.length a.2.1 : Nat) : Int)))) (List.take (List.length a.1) a.1)), true)), ())))))) (some ((a.1, (([] : List UInt8), false)), ()))))
def p0 (k : Nat) : T0 := t0
theorem o0 (k : Nat) : u0 k = p0 k := Eq.trans (by kernel_rfl) rfl
end internal_stringslite_Cut
def s_internal_stringslite_Cut (a : D20) : Option D25 := internal_stringslite_Cut.p0 fuel a
def F_internal_stringslite_Cut : FSpec cx.toNm := { ps := [.val .str, .val .str], nres := 3, rt := t19, rm := .ro, f := s_internal_stringslite_Cut }
theorem ok_internal_stringslite_Cut : FnOk Tryz.prog F_internal_stringslite_Cut 96 := fn_of (F := F_internal_stringslite_Cut) (hn := internal_stringslite_Cut.h) (E := internal_stringslite_Cut.E) cxOk (tysT _ _ _) (fs_cons ok_stringslite_Index fs_nil) follows Tryz.func96 (by kernel_rfl) (fun a r h => ⟨fuel, (congrFun (internal_stringslite_Cut.o0 fuel) a).trans ((by kernel_rfl : s_internal_stringslite_Cut a = F_internal_stringslite_Cut.f a).trans h)⟩)
namespace strings_Cut
def E : Env cx := { tys := tys, fs := fsOf [(96, F_internal_stringslite_Cut)] }
abbrev R := Option (D25)
def h : Hint := { vs := [0, 1, 4, 5, 6], ret := ([4, 5, 6], []) }
def W : Pr cx (D25) := ⟨E, h, bodyC Tryz.f84, fin (S := cx) E Tryz.f84.results.toList t19 .ro [] []⟩
abbrev T0 := D20 → R
def u0 (k : Nat) : T0 := fun a => runOf (S := cx) E h k Tryz.f84 [.val .str, .val .str] t19 .ro a
def t0 : T0 := fun a => (bindR (s_internal_stringslite_Cut (a.1, (a.2.1, ()))) fun r1 => (some ((r1.1.1, (r1.1.2.1, r1.1.2.2)), ())))
def p0 (k : Nat) : T0 := t0
theorem o0 (k : Nat) : u0 k = p0 k := Eq.trans (by kernel_rfl) rfl
end strings_Cut
def s_strings_Cut (a : D20) : Option D25 := strings_Cut.p0 fuel a
def F_strings_Cut : FSpec cx.toNm := { ps := [.val .str, .val .str], nres := 3, rt := t19, rm := .ro, f := s_strings_Cut }
theorem ok_strings_Cut : FnOk Tryz.prog F_strings_Cut 84 := fn_of (F := F_strings_Cut) (hn := strings_Cut.h) (E := strings_Cut.E) cxOk (tysT _ _ _) (fs_cons ok_internal_stringslite_Cut fs_nil) follows Tryz.func84 (by kernel_rfl) (fun a r h => ⟨fuel, (congrFun (strings_Cut.o0 fuel) a).trans ((by kernel_rfl : s_strings_Cut a = F_strings_Cut.f a).trans h)⟩)
namespace gram_rest
def E : Env cx := { tys := tys, fs := fsOf [(84, F_strings_Cut), (85, F_TrimLeft)] }
abbrev R := Option (D25)
def h : Hint := { vs := [0, 2, 3, 4, 5, 6, 7], ret := ([2, 3, 4], []) }
def W : Pr cx (D25) := ⟨E, h, bodyC Tryz.f72, fin (S := cx) E Tryz.f72.results.toList t19 .ro [] []⟩
abbrev T0 := D17 → R
def u0 (k : Nat) : T0 := fun a => runOf (S := cx) E h k Tryz.f72 [.val .str] t19 .ro a
def t0 : T0 := fun a => (bindR (s_TrimLeft (a.1, (([32] : List UInt8), ()))) fun r1 => (bindR (s_strings_Cut (r1.1, (([32] : List UInt8), ()))) fun r2 => (bindR (s_TrimLeft (r2.1.2.1, (([32] : List UInt8), ()))) fun r3 => (bindR (s_strings_Cut (r3.1, (([32] : List UInt8), ()))) fun r4 => (iteB r4.1.2.2 (some ((r4.1.1, (r4.1.2.1, (!(decide (r4.1.2.1 = ([] : List UInt8)))))), ())) (some ((r4.1.1, (r4.1.2.1, false)), ())))))))
def p0 (k : Nat) : T0 := t0
theorem o0 (k : Nat) : u0 k = p0 k := Eq.trans (by kernel_rfl) rfl
end gram_rest
def s_gram_rest (a : D17) : Option D25 := gram_rest.p0 fuel a
def F_gram_rest : FSpec cx.toNm := { ps := [.val .str], nres := 3, rt := t19, rm := .ro, f := s_gram_rest }
theorem ok_gram_rest : FnOk Tryz.prog F_gram_rest 72 := fn_of (F := F_gram_rest) (hn := gram_rest.h) (E := gram_rest.E) cxOk (tysT _ _ _) (fs_cons ok_strings_Cut (fs_cons ok_TrimLeft fs_nil)) follows Tryz.func72 (by kernel_rfl) (fun a r h => ⟨fuel, (congrFun (gram_rest.o0 fuel) a).trans ((by kernel_rfl : s_gram_rest a = F_gram_rest.f a).trans h)⟩)
namespace strings_Index
def E : Env cx := { tys := tys, fs := fsOf [(77, F_stringslite_Index)] }
abbrev R := Option (D27)
def h : Hint := { vs := [0, 1, 4], ret := ([4], []) }
def W : Pr cx (D27) := ⟨E, h, bodyC Tryz.f64, fin (S := cx) E Tryz.f64.results.toList (.int .i64) .ro [] []⟩
abbrev T0 := D20 → R
def u0 (k : Nat) : T0 := fun a => runOf (S := cx) E h k Tryz.f64 [.val .str, .val .str] (.int .i64) .ro a
def t0 : T0 := fun a => (bindR (s_stringslite_Index (a.1, (a.2.1, ()))) fun r1 => (some (r1.1, ())))
def p0 (k : Nat) : T0 := t0
theorem o0 (k : Nat) : u0 k = p0 k := Eq.trans (by kernel_rfl) rfl
end strings_Index
def s_strings_Index (a : D20) : Option D27 := strings_Index.p0 fuel a
def F_strings_Index : FSpec cx.toNm := { ps := [.val .str, .val .str], nres := 1, rt := (.int .i64), rm := .ro, f := s_strings_Index }
theorem ok_strings_Index : FnOk Tryz.prog F_strings_Index 64 := fn_of (F := F_strings_Index) (hn := strings_Index.h) (E := strings_Index.E) cxOk (tysT _ _ _) (fs_cons ok_stringslite_Index fs_nil) follows Tryz.func64 (by kernel_rfl) (fun a r h => ⟨fuel, (congrFun (strings_Index.o0 fuel) a).trans ((by kernel_rfl : s_strings_Index a = F_strings_Index.f a).trans h)⟩)
namespace strings_genSplit
def E : Env cx := { tys := tys, fs := fsOf [(64, F_strings_Index), (69, F_explode), (70, F_Count)] }
abbrev R := Option (D26)
def h : Hint := { vs := [0, 1, 2, 3, 8, 9, 10, 11], ret := ([8], []), nil := [(9, (.own .ro)), (31, (.own .ro))], cuts := [(7, ([0, 1, 2, 3], []), ([0, 1, 2, 3], [])), (11, ([0, 1, 2, 3, 9, 10], []), ([0, 1, 2, 3, 9, 10], [])), (17, ([0, 9, 10], []), ([0, 9, 10], []))] }
def W : Pr cx (D26) := ⟨E, h, bodyC Tryz.f53, fin (S := cx) E Tryz.f53.results.toList t5 .ro [] []⟩
abbrev T3 := (List UInt8) → D4 → Int → R
abbrev T2 := (List UInt8) → (List UInt8) → Int → Int → D4 → Int → R
abbrev T1 := (List UInt8) → (List UInt8) → Int → Int → R
abbrev T0 := D42 → R
def u0 (k : Nat) : T0 := fun a => runOf (S := cx) E h k Tryz.f53 [.val .str, .val .str, .val (.int .i64), .val (.int .i64)] t5 .ro a
abbrev l3 (c : Bool) (k : Nat) : T3 := fun x0 x9 x10 => lfR c W k [1, 1, 1, 1, 1, 1, 1, 1, 1] [] ⟨[(0, vS x0), (9, .v t5 (.own .ro) x9), (10, vI x10)], [], []⟩
abbrev l2 (c : Bool) (k n2 : Nat) : T2 := fun x0 x1 x2 x3 x9 x10 => lfL c W k [1, 1, 1, 1, 1, 1, 1, 1, 0, 0] [] n2 ⟨[(0, vS x0), (1, vS x1), (2, vI x2), (3, vI x3), (9, .v t5 (.own .ro) x9), (10, vI x10)], [], []⟩
abbrev l1 (c : Bool) (k : Nat) : T1 := fun x0 x1 x2 x3 => lfR c W k [1, 1, 1, 1] [] ⟨[(0, vS x0), (1, vS x1), (2, vI x2), (3, vI x3)], [], []⟩
def t3 : T3 := fun x0 x9 x10 => (withinR x10 (List.length x9) fun q5 => (mustR (decide (0 ≤ (w64 (x10 + (1 : Int))))) (mustR (decide ((w64 (x10 + (1 : Int))) ≤ (((List.length (List.set x9 q5 x0)) : Nat) : Int))) (some ((List.drop 0 (List.take (Int.toNat (w64 (x10 + (1 : Int)))) (List.set x9 q5 x0))), ())))))
def p3 (k : Nat) : T3 := t3
theorem o3 (k : Nat) : l3 true k = p3 k := lfo (b := l3 false k) (fx3 fun _ _ _ => lcR) (by kernel_rfl) rfl
def t2 (f3 : T3) (f2 : T2) : T2 := fun x0 x1 x2 x3 x9 x10 => (iteB (decide (x10 < x3)) (bindR (s_strings_Index (x0, (x1, ()))) fun r3 => (iteB (decide (r3.1 < (0 : Int))) (f3 x0 x9 x10) (mustR (decide (0 ≤ (w64 (r3.1 + x2)))) (mustR (decide ((w64 (r3.1 + x2)) ≤ (((List.length x0) : Nat) : Int))) (withinR x10 (List.length x9) fun q4 => (mustR (decide (0 ≤ (w64 (r3.1 + ((List.length x1 : Nat) : Int))))) (mustR (decide ((w64 (r3.1 + ((List.length x1 : Nat) : Int))) ≤ (((List.length x0) : Nat) : Int))) (f2 (List.drop (Int.toNat (w64 (r3.1 + ((List.length x1 : Nat) : Int)))) (List.take (List.length x0) x0)) x1 x2 x3 (List.set x9 q4 (List.drop 0 (List.take (Int.toNat (w64 (r3.1 + x2))) x0))) (w64 (x10 + (1 : Int))))))))))) (f3 x0 x9 x10))
def p2 (k : Nat) : Nat → T2 := iter fun f => t2 (p3 k) f
theorem o2 (k : Nat) : ∀ n, l2 true k n = p2 k n := oL (u := l2 false k) (by kernel_rfl) (fun n2 => (fx6 fun _ _ _ _ _ _ => lcL)) (fun n2 => by kernel_rfl) (fun n2 f h => (congr (congrArg t2 (o3 k)) h))
def t1 (f2 : T2) : T1 := fun x0 x1 x2 x3 => (mustR (decide ((minI x3 (w64 (((List.length x0 : Nat) : Int) + (1 : Int)))) = (minI x3 (w64 (((List.length x0 : Nat) : Int) + (1 : Int)))) ∧ (0 : Int) ≤ (minI x3 (w64 (((List.length x0 : Nat) : Int) + (1 : Int)))) ∧ (minI x3 (w64 (((List.length x0 : Nat) : Int) + (1 : Int)))) ≤ (16777216 : Int))) (f2 x0 x1 x2 (w64 ((minI x3 (w64 (((List.length x0 : Nat) : Int) + (1 : Int)))) - (1 : Int))) (List.replicate (Int.toNat (minI x3 (w64 (((List.length x0 : Nat) : Int) + (1 : Int))))) ([] : List UInt8)) (0 : Int)))
def p1 (k : Nat) : T1 := t1 (p2 k k)
theorem o1 (k : Nat) : l1 true k = p1 k := lfo (b := l1 false k) (fx4 fun _ _ _ _ => lcR) (by kernel_rfl) (congrArg t1 (o2 k k))
def t0 (f1 : T1) : T0 := fun a => (iteB (decide (a.2.2.2.1 = (0 : Int))) (some (([] : List (List UInt8)), ())) (iteB (decide (a.2.1 = ([] : List UInt8))) (bindR (s_explode (a.1, (a.2.2.2.1, ()))) fun r1 => (some (r1.1, ()))) (iteB (decide (a.2.2.2.1 < (0 : Int))) (bindR (s_Count (a.1, (a.2.1, ()))) fun r2 => (f1 a.1 a.2.1 a.2.2.1 (w64 (r2.1 + (1 : Int))))) (f1 a.1 a.2.1 a.2.2.1 a.2.2.2.1))))
def p0 (k : Nat) : T0 := t0 (p1 k)
theorem o0 (k : Nat) : u0 k = p0 k := Eq.trans (by kernel_rfl) (congrArg t0 (o1 k))
end strings_genSplit
def s_strings_genSplit (a : D42) : Option D26 := strings_genSplit.p0 fuel a
def F_strings_genSplit : FSpec cx.toNm := { ps := [.val .str, .val .str, .val (.int .i64), .val (.int .i64)], nres := 1, rt := t5, rm := .ro, f := s_strings_genSplit }
theorem ok_strings_genSplit : FnOk Tryz.prog F_strings_genSplit 53 := fn_of (F := F_strings_genSplit) (hn := strings_genSplit.h) (E := strings_genSplit.E) cxOk (tysT _ _ _) (fs_cons ok_strings_Index (fs_cons ok_explode (fs_cons ok_Count fs_nil))) follows Tryz.func53 (by kernel_rfl) (fun a r h => ⟨fuel, (congrFun (strings_genSplit.o0 fuel) a).trans ((by kernel_rfl : s_strings_genSplit a = F_strings_genSplit.f a).trans h)⟩)
namespace strings_Split
def E : Env cx := { tys := tys, fs := fsOf [(53, F_strings_genSplit)] }
abbrev R := Option (D26)
def h : Hint := { vs := [0, 1, 4], ret := ([4], []) }
def W : Pr cx (D26) := ⟨E, h, bodyC Tryz.f37, fin (S := cx) E Tryz.f37.results.toList t5 .ro [] []⟩
abbrev T0 := D20 → R
def u0 (k : Nat) : T0 := fun a => runOf (S := cx) E h k Tryz.f37 [.val .str, .val .str] t5 .ro a
def t0 : T0 := fun a => (bindR (s_strings_genSplit (a.1, (a.2.1, ((0 : Int), ((-1 : Int), ()))))) fun r1 => (some (r1.1, ())))
def p0 (k : Nat) : T0 := t0
theorem o0 (k : Nat) : u0 k = p0 k := Eq.trans (by kernel_rfl) rfl
end strings_Split
def s_strings_Split (a : D20) : Option D26 := strings_Split.p0 fuel a
def F_strings_Split : FSpec cx.toNm := { ps := [.val .str, .val .str], nres := 1, rt := t5, rm := .ro, f := s_strings_Split }
theorem ok_strings_Split : FnOk Tryz.prog F_strings_Split 37 := fn_of (F := F_strings_Split) (hn := strings_Split.h) (E := strings_Split.E) cxOk (tysT _ _ _) (fs_cons ok_strings_genSplit fs_nil) follows Tryz.func37 (by kernel_rfl) (fun a r h => ⟨fuel, (congrFun (strings_Split.o0 fuel) a).trans ((by kernel_rfl : s_strings_Split a = F_strings_Split.f a).trans h)⟩)
namespace gram_words
def E : Env cx := { tys := tys, fs := fsOf [(37, F_strings_Split)] }
abbrev R := Option (D26)
def h : Hint := { vs := [0, 2, 3, 5, 7, 8, 9], ret := ([2], []), nil := [(3, (.own .ro))], cuts := [(3, ([3, 7, 8, 9], []), ([3], [])), (7, ([3, 7, 8, 9], []), ([3, 7, 8, 9], [])), (8, ([3], []), ([3], []))] }
def W : Pr cx (D26) := ⟨E, h, bodyC Tryz.f54, fin (S := cx) E Tryz.f54.results.toList t5 .ro [] []⟩
abbrev T2 := D4 → D4 → Int → Int → R
abbrev T3 := D4 → R
abbrev T1 := D4 → D4 → Int → Int → R
abbrev T0 := D17 → R
def u0 (k : Nat) : T0 := fun a => runOf (S := cx) E h k Tryz.f54 [.val .str] t5 .ro a
abbrev l2 (c : Bool) (k n1 : Nat) : T2 := fun x3 x7 x8 x9 => lfR c W k [1, 1, 0, 1, 0, 0, 1, 1, 1] [n1] ⟨[(3, .v t5 (.own .ro) x3), (7, vR t5 x7), (8, vI x8), (9, vI x9)], [], []⟩
abbrev l3 (c : Bool) (k : Nat) : T3 := fun x3 => lfR c W k [1, 1, 1] [] ⟨[(3, .v t5 (.own .ro) x3)], [], []⟩
abbrev l1 (c : Bool) (k n1 : Nat) : T1 := fun x3 x7 x8 x9 => lfL c W k [1, 1, 0, 1, 0] [] n1 ⟨[(3, .v t5 (.own .ro) x3), (7, vR t5 x7), (8, vI x8), (9, vI x9)], [], []⟩
def t2 (f1 : T1) : T2 := fun x3 x7 x8 x9 => (f1 x3 x7 x8 (w64 (x9 + (1 : Int))))
def p2 (k : Nat) (a1 : T1) : T2 := t2 a1
theorem o2 (k n1 : Nat) (a1 : T1) (h1 : l1 true k n1 = a1) : l2 true k n1 = p2 k a1 := lfo (b := l2 false k n1) (fx4 fun _ _ _ _ => lcR) (by kernel_rfl) (congrArg t2 h1)
def t3 : T3 := fun x3 => (some (x3, ()))
def p3 (k : Nat) : T3 := t3
theorem o3 (k : Nat) : l3 true k = p3 k := lfo (b := l3 false k) (fx1 fun _ => lcR) (by kernel_rfl) rfl
def t1 (f2 : T2) (f3 : T3) : T1 := fun x3 x7 x8 x9 => (iteB (decide (x9 < x8)) (withinR x9 (List.length x7) fun q2 => (iteB (!(decide ((List.getD x7 q2 ([] : List UInt8)) = ([] : List UInt8)))) (mustR (room x3 ([(List.getD x7 q2 ([] : List UInt8))] : List (List UInt8))) (f2 (x3 ++ ([(List.getD x7 q2 ([] : List UInt8))] : List (List UInt8))) x7 x8 x9)) (f2 x3 x7 x8 x9))) (f3 x3))
def p1 (k : Nat) : Nat → T1 := iter fun f => t1 (p2 k f) (p3 k)
theorem o1 (k : Nat) : ∀ n, l1 true k n = p1 k n := oL (u := l1 false k) (by kernel_rfl) (fun n1 => (fx4 fun _ _ _ _ => lcL)) (fun n1 => by kernel_rfl) (fun n1 f h => (congr (congrArg t1 (o2 k n1 f h)) (o3 k)))
def t0 (f1 : T1) : T0 := fun a => (bindR (s_strings_Split (a.1, (([32] : List UInt8), ()))) fun r1 => (f1 ([] : List (List UInt8)) r1.1 ((List.length r1.1 : Nat) : Int) (0 : Int)))
def p0 (k : Nat) : T0 := t0 (p1 k k)
theorem o0 (k : Nat) : u0 k = p0 k := Eq.trans (by kernel_rfl) (congrArg t0 (o1 k k))
end gram_words
def s_gram_words (a : D17) : Option D26 := gram_words.p0 fuel a
def F_gram_words : FSpec cx.toNm := { ps := [.val .str], nres := 1, rt := t5, rm := .ro, f := s_gram_words }
theorem ok_gram_words : FnOk Tryz.prog F_gram_words 54 := fn_of (F := F_gram_words) (hn := gram_words.h) (E := gram_words.E) cxOk (tysT _ _ _) (fs_cons ok_strings_Split fs_nil) follows Tryz.func54 (by kernel_rfl) (fun a r h => ⟨fuel, (congrFun (gram_words.o0 fuel) a).trans ((by kernel_rfl : s_gram_words a = F_gram_words.f a).trans h)⟩)
namespace gram_reading_token
def E : Env cx := { tys := tys, fs := fsOf [(10, F_IsName), (54, F_gram_words), (72, F_gram_rest)] }
abbrev R := Option (D16)
def h : Hint := { vs := [0, 1, 4, 5, 6, 7], ret := ([0, 4], [1000000]) }
def W : Pr cx (D16) := ⟨E, h, bodyC Tryz.f56, fin (S := cx) E Tryz.f56.results.toList (.int .i64) .ro [1000000] [(t17, m_3)]⟩
abbrev T0 := D18 → R
def u0 (k : Nat) : T0 := fun a => runOf (S := cx) E h k Tryz.f56 [.io t17 m_3, .val .str] (.int .i64) .ro a
def t0 : T0 := fun a => (bindR (s_gram_rest (a.2.1, ())) fun r1 => (iteB (notB r1.1.2.2) (some ((30 : Int), (a.1, ()))) (bindR (s_IsName (r1.1.1, ())) fun r2 => (iteB (notB r2.1) (some ((31 : Int), (a.1, ()))) (iteB (decide (((List.length a.1.1.1 : Nat) : Int) = (32 : Int))) (some ((21 : Int), (a.1, ()))) (bindR (s_gram_words (a.2.1, ())) fun r3 => (withinR (0 : Int) (List.length r3.1) fun q4 => (mustR (room a.1.1.1 ([(r1.1.1, (r1.1.2.1, ((decide ((List.getD r3.1 q4 ([] : List UInt8)) = ([115, 107, 105, 112] : List UInt8))), (0 : Int))))] : List (D2))) (some ((0 : Int), ((((a.1.1.1 ++ ([(r1.1.1, (r1.1.2.1, ((decide ((List.getD r3.1 q4 ([] : List UInt8)) = ([115, 107, 105, 112] : List UInt8))), (0 : Int))))] : List (D2))), a.1.1.2), a.1.2), ())))))))))))
def p0 (k : Nat) : T0 := t0
theorem o0 (k : Nat) : u0 k = p0 k := Eq.trans (by kernel_rfl) rfl
end gram_reading_token
def s_gram_reading_token (a : D18) : Option D16 := gram_reading_token.p0 fuel a
def F_gram_reading_token : FSpec cx.toNm := { ps := [.io t17 m_3, .val .str], nres := 1, rt := (.int .i64), rm := .ro, f := s_gram_reading_token }
theorem ok_gram_reading_token : FnOk Tryz.prog F_gram_reading_token 56 := fn_of (F := F_gram_reading_token) (hn := gram_reading_token.h) (E := gram_reading_token.E) cxOk (tysT _ _ _) (fs_cons ok_IsName (fs_cons ok_gram_words (fs_cons ok_gram_rest fs_nil))) follows Tryz.func56 (by kernel_rfl) (fun a r h => ⟨fuel, (congrFun (gram_reading_token.o0 fuel) a).trans ((by kernel_rfl : s_gram_reading_token a = F_gram_reading_token.f a).trans h)⟩)
namespace gram_reading_class
def E : Env cx := { tys := tys, fs := fsOf [(54, F_gram_words)] }
abbrev R := Option (D16)
def h : Hint := { vs := [0, 1, 4, 5, 6], ret := ([0, 4], [1000000]), cuts := [(3, ([0, 5, 30], [1000000]), ([0, 5], [1000000])), (4, ([0, 5], [1000000]), ([0, 5], [1000000])), (5, ([0, 5, 6], [1000000]), ([0], [1000000])), (10, ([0], [1000000]), ([0], [1000000]))] }
def W : Pr cx (D16) := ⟨E, h, bodyC Tryz.f57, fin (S := cx) E Tryz.f57.results.toList (.int .i64) .ro [1000000] [(t17, m_3)]⟩
abbrev T4 := D12 → R
abbrev T3 := D4 → Int → D12 → R
abbrev T2 := D4 → D12 → R
abbrev T1 := D4 → Bool → D12 → R
abbrev T0 := D18 → R
def u0 (k : Nat) : T0 := fun a => runOf (S := cx) E h k Tryz.f57 [.io t17 m_3, .val .str] (.int .i64) .ro a
abbrev l4 (c : Bool) (k : Nat) : T4 := fun m1000000 => lfR c W k [1, 1, 1, 1] [] ⟨[(0, vA 1000000)], [], [(1000000, ⟨t17, m_3, m1000000⟩)]⟩
abbrev l3 (c : Bool) (k n3 : Nat) : T3 := fun x5 x6 m1000000 => lfL c W k [1, 1, 1, 0, 1, 0] [] n3 ⟨[(0, vA 1000000), (5, vR t5 x5), (6, vI x6)], [], [(1000000, ⟨t17, m_3, m1000000⟩)]⟩
abbrev l2 (c : Bool) (k : Nat) : T2 := fun x5 m1000000 => lfR c W k [1, 1, 1] [] ⟨[(0, vA 1000000), (5, vR t5 x5)], [], [(1000000, ⟨t17, m_3, m1000000⟩)]⟩
abbrev l1 (c : Bool) (k : Nat) : T1 := fun x5 x30 m1000000 => lfR c W k [1, 1, 0, 1] [] ⟨[(0, vA 1000000), (5, vR t5 x5), (30, vB x30)], [], [(1000000, ⟨t17, m_3, m1000000⟩)]⟩
def t4 : T4 := fun m1000000 => (some ((31 : Int), (m1000000, ())))
def p4 (k : Nat) : T4 := t4
theorem o4 (k : Nat) : l4 true k = p4 k := lfo (b := l4 false k) (fx1 fun _ => lcR) (by kernel_rfl) rfl
def t3 (f3 : T3) (f4 : T4) : T3 := fun x5 x6 m1000000 => (iteB (decide ((0 : Int) ≤ x6)) (withinR x6 (List.length m1000000.1.1) fun q5 => (withinR (1 : Int) (List.length x5) fun q6 => (iteB (decide ((List.getD m1000000.1.1 q5 (([] : List UInt8), (([] : List UInt8), (false, (0 : Int))))).1 = (List.getD x5 q6 ([] : List UInt8)))) (withinR (2 : Int) (List.length x5) fun q7 => (withinR (0 : Int) (List.length (List.getD x5 q7 ([] : List UInt8))) fun q8 => (withinR x6 (List.length m1000000.1.1) fun q9 => (some ((0 : Int), ((((List.set m1000000.1.1 q9 ((List.getD m1000000.1.1 q9 (([] : List UInt8), (([] : List UInt8), (false, (0 : Int))))).1, ((List.getD m1000000.1.1 q9 (([] : List UInt8), (([] : List UInt8), (false, (0 : Int))))).2.1, ((List.getD m1000000.1.1 q9 (([] : List UInt8), (([] : List UInt8), (false, (0 : Int))))).2.2.1, (w64 ((w8 ((byteAt (List.getD x5 q7 ([] : List UInt8)) q8) - (48 : Int))))))))), m1000000.1.2), m1000000.2), ())))))) (f3 x5 (w64 (x6 - (1 : Int))) m1000000)))) (f4 m1000000))
def p3 (k : Nat) : Nat → T3 := iter fun f => t3 f (p4 k)
theorem o3 (k : Nat) : ∀ n, l3 true k n = p3 k n := oL (u := l3 false k) (by kernel_rfl) (fun n3 => (fx3 fun _ _ _ => lcL)) (fun n3 => by kernel_rfl) (fun n3 f h => (congr (congrArg t3 h) (o4 k)))
def t2 (f3 : T3) : T2 := fun x5 m1000000 => (f3 x5 (w64 (((List.length m1000000.1.1 : Nat) : Int) - (1 : Int))) m1000000)
def p2 (k : Nat) : T2 := t2 (p3 k k)
theorem o2 (k : Nat) : l2 true k = p2 k := lfo (b := l2 false k) (fx2 fun _ _ => lcR) (by kernel_rfl) (congrArg t2 (o3 k k))
def t1 (f2 : T2) : T1 := fun x5 x30 m1000000 => (iteB x30 (some ((30 : Int), (m1000000, ()))) (f2 x5 m1000000))
def p1 (k : Nat) : T1 := t1 (p2 k)
theorem o1 (k : Nat) : l1 true k = p1 k := lfo (b := l1 false k) (fx3 fun _ _ _ => lcR) (by kernel_rfl) (congrArg t1 (o2 k))
def t0 (f1 : T1) : T0 := fun a => (bindR (s_gram_words (a.2.1, ())) fun r1 => (iteB (!decide (((List.length r1.1 : Nat) : Int) = (3 : Int))) (f1 r1.1 true a.1) (withinR (2 : Int) (List.length r1.1) fun q2 => (iteB (!decide (((List.length (List.getD r1.1 q2 ([] : List UInt8)) : Nat) : Int) = (1 : Int))) (f1 r1.1 true a.1) (withinR (2 : Int) (List.length r1.1) fun q3 => (iteB (Op.bytesLess (List.getD r1.1 q3 ([] : List UInt8)) ([49] : List UInt8)) (f1 r1.1 true a.1) (withinR (2 : Int) (List.length r1.1) fun q4 => (f1 r1.1 (!((Op.bytesLess (List.getD r1.1 q4 ([] : List UInt8)) ([57] : List UInt8)) || (decide ((List.getD r1.1 q4 ([] : List UInt8)) = ([57] : List UInt8))))) a.1))))))))
def p0 (k : Nat) : T0 := t0 (p1 k)
theorem o0 (k : Nat) : u0 k = p0 k := Eq.trans (by kernel_rfl) (congrArg t0 (o1 k))
end gram_reading_class
def s_gram_reading_class (a : D18) : Option D16 := gram_reading_class.p0 fuel a
def F_gram_reading_class : FSpec cx.toNm := { ps := [.io t17 m_3, .val .str], nres := 1, rt := (.int .i64), rm := .ro, f := s_gram_reading_class }
theorem ok_gram_reading_class : FnOk Tryz.prog F_gram_reading_class 57 := fn_of (F := F_gram_reading_class) (hn := gram_reading_class.h) (E := gram_reading_class.E) cxOk (tysT _ _ _) (fs_cons ok_gram_words fs_nil) follows Tryz.func57 (by kernel_rfl) (fun a r h => ⟨fuel, (congrFun (gram_reading_class.o0 fuel) a).trans ((by kernel_rfl : s_gram_reading_class a = F_gram_reading_class.f a).trans h)⟩)
namespace gram_reading_start
def E : Env cx := { tys := tys, fs := fsOf [(10, F_IsName), (54, F_gram_words)] }
abbrev R := Option (D16)
def h : Hint := { vs := [0, 1, 4, 5], ret := ([0, 4], [1000000]) }
def W : Pr cx (D16) := ⟨E, h, bodyC Tryz.f58, fin (S := cx) E Tryz.f58.results.toList (.int .i64) .ro [1000000] [(t17, m_3)]⟩
abbrev T0 := D18 → R
def u0 (k : Nat) : T0 := fun a => runOf (S := cx) E h k Tryz.f58 [.io t17 m_3, .val .str] (.int .i64) .ro a
def t0 : T0 := fun a => (bindR (s_gram_words (a.2.1, ())) fun r1 => (iteB (!decide (((List.length r1.1 : Nat) : Int) = (2 : Int))) (some ((30 : Int), (a.1, ()))) (withinR (1 : Int) (List.length r1.1) fun q2 => (bindR (s_IsName ((List.getD r1.1 q2 ([] : List UInt8)), ())) fun r3 => (iteB (notB r3.1) (some ((31 : Int), (a.1, ()))) (iteB a.1.2 (some ((32 : Int), (a.1, ()))) (withinR (1 : Int) (List.length r1.1) fun q4 => (some ((0 : Int), (((a.1.1.1, ((List.getD r1.1 q4 ([] : List UInt8)), a.1.1.2.2)), true), ()))))))))))
def p0 (k : Nat) : T0 := t0
theorem o0 (k : Nat) : u0 k = p0 k := Eq.trans (by kernel_rfl) rfl
end gram_reading_start
def s_gram_reading_start (a : D18) : Option D16 := gram_reading_start.p0 fuel a
def F_gram_reading_start : FSpec cx.toNm := { ps := [.io t17 m_3, .val .str], nres := 1, rt := (.int .i64), rm := .ro, f := s_gram_reading_start }
theorem ok_gram_reading_start : FnOk Tryz.prog F_gram_reading_start 58 := fn_of (F := F_gram_reading_start) (hn := gram_reading_start.h) (E := gram_reading_start.E) cxOk (tysT _ _ _) (fs_cons ok_IsName (fs_cons ok_gram_words fs_nil)) follows Tryz.func58 (by kernel_rfl) (fun a r h => ⟨fuel, (congrFun (gram_reading_start.o0 fuel) a).trans ((by kernel_rfl : s_gram_reading_start a = F_gram_reading_start.f a).trans h)⟩)
namespace gram_areNames_1
def E : Env cx := { tys := tys, fs := fsOf [(10, F_IsName)] }
abbrev R := Option (D19)
def h : Hint := { vs := [0, 2], ret := ([2], []) }
def W : Pr cx (D19) := ⟨E, h, bodyC Tryz.f50, fin (S := cx) E Tryz.f50.results.toList .bool .ro [] []⟩
abbrev T0 := D17 → R
def u0 (k : Nat) : T0 := fun a => runOf (S := cx) E h k Tryz.f50 [.val .str] .bool .ro a
def t0 : T0 := fun a => (bindR (s_IsName (a.1, ())) fun r1 => (some ((notB r1.1), ())))
def p0 (k : Nat) : T0 := t0
theorem o0 (k : Nat) : u0 k = p0 k := Eq.trans (by kernel_rfl) rfl
end gram_areNames_1
def s_gram_areNames_1 (a : D17) : Option D19 := gram_areNames_1.p0 fuel a
def F_gram_areNames_1 : FSpec cx.toNm := { ps := [.val .str], nres := 1, rt := .bool, rm := .ro, f := s_gram_areNames_1 }
theorem ok_gram_areNames_1 : FnOk Tryz.prog F_gram_areNames_1 50 := fn_of (F := F_gram_areNames_1) (hn := gram_areNames_1.h) (E := gram_areNames_1.E) cxOk (tysT _ _ _) (fs_cons ok_IsName fs_nil) follows Tryz.func50 (by kernel_rfl) (fun a r h => ⟨fuel, (congrFun (gram_areNames_1.o0 fuel) a).trans ((by kernel_rfl : s_gram_areNames_1 a = F_gram_areNames_1.f a).trans h)⟩)
namespace slices_IndexFuncxxx
def E : Env cx := { tys := tys, fs := fsOf [(50, F_gram_areNames_1)] }
abbrev R := Option (D27)
def h : Hint := { vs := [0, 1, 4, 5, 7, 8], ret := ([4], []), cuts := [(2, ([0, 1, 7, 8], []), ([], [])), (7, ([], []), ([], []))] }
def W : Pr cx (D27) := ⟨E, h, bodyC Tryz.f65, fin (S := cx) E Tryz.f65.results.toList (.int .i64) .ro [] []⟩
abbrev T2 := R
abbrev T1 := D4 → Unit → Int → Int → R
abbrev T0 := D37 → R
def u0 (k : Nat) : T0 := fun a => runOf (S := cx) E h k Tryz.f65 [.val t5, .val t24] (.int .i64) .ro a
abbrev l2 (c : Bool) (k : Nat) : T2 := lfR c W k [1, 1] [] ⟨[], [], []⟩
abbrev l1 (c : Bool) (k n1 : Nat) : T1 := fun x0 x1 x7 x8 => lfL c W k [1, 0, 1, 0] [] n1 ⟨[(0, vR t5 x0), (1, vR t24 x1), (7, vI x7), (8, vI x8)], [], []⟩
def t2 : T2 := (some ((-1 : Int), ()))
def p2 (k : Nat) : T2 := t2
theorem o2 (k : Nat) : l2 true k = p2 k := lfo (b := l2 false k) lcR (by kernel_rfl) rfl
def t1 (f1 : T1) (f2 : T2) : T1 := fun x0 x1 x7 x8 => (iteB (decide (x8 < x7)) (withinR x8 (List.length x0) fun q1 => (bindR (s_gram_areNames_1 ((List.getD x0 q1 ([] : List UInt8)), ())) fun r2 => (iteB r2.1 (some (x8, ())) (f1 x0 x1 x7 (w64 (x8 + (1 : Int))))))) f2)
def p1 (k : Nat) : Nat → T1 := iter fun f => t1 f (p2 k)
theorem o1 (k : Nat) : ∀ n, l1 true k n = p1 k n := oL (u := l1 false k) (by kernel_rfl) (fun n1 => (fx4 fun _ _ _ _ => lcL)) (fun n1 => by kernel_rfl) (fun n1 f h => (congr (congrArg t1 h) (o2 k)))
def t0 (f1 : T1) : T0 := fun a => (f1 a.1 a.2.1 ((List.length a.1 : Nat) : Int) (0 : Int))
def p0 (k : Nat) : T0 := t0 (p1 k k)
theorem o0 (k : Nat) : u0 k = p0 k := Eq.trans (by kernel_rfl) (congrArg t0 (o1 k k))
end slices_IndexFuncxxx
def s_slices_IndexFuncxxx (a : D37) : Option D27 := slices_IndexFuncxxx.p0 fuel a
def F_slices_IndexFuncxxx : FSpec cx.toNm := { ps := [.val t5, .val t24], nres := 1, rt := (.int .i64), rm := .ro, f := s_slices_IndexFuncxxx }
theorem ok_slices_IndexFuncxxx : FnOk Tryz.prog F_slices_IndexFuncxxx 65 := fn_of (F := F_slices_IndexFuncxxx) (hn := slices_IndexFuncxxx.h) (E := slices_IndexFuncxxx.E) cxOk (tysT _ _ _) (fs_cons ok_gram_areNames_1 fs_nil) follows Tryz.func65 (by kernel_rfl) (fun a r h => ⟨fuel, (congrFun (slices_IndexFuncxxx.o0 fuel) a).trans ((by kernel_rfl : s_slices_IndexFuncxxx a = F_slices_IndexFuncxxx.f a).trans h)⟩)
namespace slices_ContainsFuncxxx
def E : Env cx := { tys := tys, fs := fsOf [(65, F_slices_IndexFuncxxx)] }
abbrev R := Option (D19)
def h : Hint := { vs := [0, 1, 4], ret := ([4], []) }
def W : Pr cx (D19) := ⟨E, h, bodyC Tryz.f49, fin (S := cx) E Tryz.f49.results.toList .bool .ro [] []⟩
abbrev T0 := D37 → R
def u0 (k : Nat) : T0 := fun a => runOf (S := cx) E h k Tryz.f49 [.val t5, .val t24] .bool .ro a
def t0 : T0 := fun a => (bindR (s_slices_IndexFuncxxx (a.1, (a.2.1, ()))) fun r1 => (some ((decide ((0 : Int) ≤ r1.1)), ())))
def p0 (k : Nat) : T0 := t0
theorem o0 (k : Nat) : u0 k = p0 k := Eq.trans (by kernel_rfl) rfl
end slices_ContainsFuncxxx
def s_slices_ContainsFuncxxx (a : D37) : Option D19 := slices_ContainsFuncxxx.p0 fuel a
def F_slices_ContainsFuncxxx : FSpec cx.toNm := { ps := [.val t5, .val t24], nres := 1, rt := .bool, rm := .ro, f := s_slices_ContainsFuncxxx }
theorem ok_slices_ContainsFuncxxx : FnOk Tryz.prog F_slices_ContainsFuncxxx 49 := fn_of (F := F_slices_ContainsFuncxxx) (hn := slices_ContainsFuncxxx.h) (E := slices_ContainsFuncxxx.E) cxOk (tysT _ _ _) (fs_cons ok_slices_IndexFuncxxx fs_nil) follows Tryz.func49 (by kernel_rfl) (fun a r h => ⟨fuel, (congrFun (slices_ContainsFuncxxx.o0 fuel) a).trans ((by kernel_rfl : s_slices_ContainsFuncxxx a = F_slices_ContainsFuncxxx.f a).trans h)⟩)
namespace gram_areNames
def E : Env cx := { tys := tys, fs := fsOf [(49, F_slices_ContainsFuncxxx)] }
abbrev R := Option (D19)
def h : Hint := { vs := [0, 2], ret := ([2], []) }
def W : Pr cx (D19) := ⟨E, h, bodyC Tryz.f31, fin (S := cx) E Tryz.f31.results.toList .bool .ro [] []⟩
abbrev T0 := D26 → R
def u0 (k : Nat) : T0 := fun a => runOf (S := cx) E h k Tryz.f31 [.val t5] .bool .ro a
def t0 : T0 := fun a => (bindR (s_slices_ContainsFuncxxx (a.1, ((), ()))) fun r1 => (some ((notB r1.1), ())))
def p0 (k : Nat) : T0 := t0
theorem o0 (k : Nat) : u0 k = p0 k := Eq.trans (by kernel_rfl) rfl
end gram_areNames
def s_gram_areNames (a : D26) : Option D19 := gram_areNames.p0 fuel a
def F_gram_areNames : FSpec cx.toNm := { ps := [.val t5], nres := 1, rt := .bool, rm := .ro, f := s_gram_areNames }
theorem ok_gram_areNames : FnOk Tryz.prog F_gram_areNames 31 := fn_of (F := F_gram_areNames) (hn := gram_areNames.h) (E := gram_areNames.E) cxOk (tysT _ _ _) (fs_cons ok_slices_ContainsFuncxxx fs_nil) follows Tryz.func31 (by kernel_rfl) (fun a r h => ⟨fuel, (congrFun (gram_areNames.o0 fuel) a).trans ((by kernel_rfl : s_gram_areNames a = F_gram_areNames.f a).trans h)⟩)
namespace gram_reading_rule
def E : Env cx := { tys := tys, fs := fsOf [(10, F_IsName), (31, F_gram_areNames), (54, F_gram_words)] }
abbrev R := Option (D16)
def h : Hint := { vs := [0, 1, 4, 5], ret := ([0, 4], [1000000]), cuts := [(3, ([0, 5, 8], [1000000]), ([0, 5], [1000000])), (5, ([0, 5, 18], [1000000]), ([0, 5], [1000000])), (7, ([0, 5, 30], [1000000]), ([0, 5], [1000000])), (8, ([0, 5], [1000000]), ([0, 5], [1000000]))] }
def W : Pr cx (D16) := ⟨E, h, bodyC Tryz.f59, fin (S := cx) E Tryz.f59.results.toList (.int .i64) .ro [1000000] [(t17, m_3)]⟩
abbrev T4 := D4 → D12 → R
abbrev T3 := D4 → Bool → D12 → R
abbrev T2 := D4 → Bool → D12 → R
abbrev T1 := D4 → Bool → D12 → R
abbrev T0 := D18 → R
def u0 (k : Nat) : T0 := fun a => runOf (S := cx) E h k Tryz.f59 [.io t17 m_3, .val .str] (.int .i64) .ro a
abbrev l4 (c : Bool) (k : Nat) : T4 := fun x5 m1000000 => lfR c W k [1, 1, 1] [] ⟨[(0, vA 1000000), (5, vR t5 x5)], [], [(1000000, ⟨t17, m_3, m1000000⟩)]⟩
abbrev l3 (c : Bool) (k : Nat) : T3 := fun x5 x30 m1000000 => lfR c W k [1, 1, 0, 0, 1, 1, 1, 1, 1] [] ⟨[(0, vA 1000000), (5, vR t5 x5), (30, vB x30)], [], [(1000000, ⟨t17, m_3, m1000000⟩)]⟩
abbrev l2 (c : Bool) (k : Nat) : T2 := fun x5 x18 m1000000 => lfR c W k [1, 1, 0, 0, 1, 1, 1] [] ⟨[(0, vA 1000000), (5, vR t5 x5), (18, vB x18)], [], [(1000000, ⟨t17, m_3, m1000000⟩)]⟩
abbrev l1 (c : Bool) (k : Nat) : T1 := fun x5 x8 m1000000 => lfR c W k [1, 1, 0, 0, 1] [] ⟨[(0, vA 1000000), (5, vR t5 x5), (8, vB x8)], [], [(1000000, ⟨t17, m_3, m1000000⟩)]⟩
def t4 : T4 := fun x5 m1000000 => (withinR (1 : Int) (List.length x5) fun q6 => (mustR (decide (0 ≤ (3 : Int))) (mustR (decide ((3 : Int) ≤ (((List.length x5) : Nat) : Int))) (mustR (room m1000000.1.2.2.1 ([((List.getD x5 q6 ([] : List UInt8)), (List.drop (Int.toNat (3 : Int)) (List.take (List.length x5) x5)))] : List (D5))) (some ((0 : Int), (((m1000000.1.1, (m1000000.1.2.1, ((m1000000.1.2.2.1 ++ ([((List.getD x5 q6 ([] : List UInt8)), (List.drop (Int.toNat (3 : Int)) (List.take (List.length x5) x5)))] : List (D5))), m1000000.1.2.2.2))), m1000000.2), ())))))))
def p4 (k : Nat) : T4 := t4
theorem o4 (k : Nat) : l4 true k = p4 k := lfo (b := l4 false k) (fx2 fun _ _ => lcR) (by kernel_rfl) rfl
def t3 (f4 : T4) : T3 := fun x5 x30 m1000000 => (iteB x30 (some ((21 : Int), (m1000000, ()))) (f4 x5 m1000000))
def p3 (k : Nat) : T3 := t3 (p4 k)
theorem o3 (k : Nat) : l3 true k = p3 k := lfo (b := l3 false k) (fx3 fun _ _ _ => lcR) (by kernel_rfl) (congrArg t3 (o4 k))
def t2 (f3 : T3) : T2 := fun x5 x18 m1000000 => (iteB x18 (some ((31 : Int), (m1000000, ()))) (iteB (decide ((8 : Int) < (w64 (((List.length x5 : Nat) : Int) - (3 : Int))))) (f3 x5 true m1000000) (f3 x5 (decide (((List.length m1000000.1.2.2.1 : Nat) : Int) = (64 : Int))) m1000000)))
def p2 (k : Nat) : T2 := t2 (p3 k)
theorem o2 (k : Nat) : l2 true k = p2 k := lfo (b := l2 false k) (fx3 fun _ _ _ => lcR) (by kernel_rfl) (congrArg t2 (o3 k))
def t1 (f2 : T2) : T1 := fun x5 x8 m1000000 => (iteB x8 (some ((30 : Int), (m1000000, ()))) (withinR (1 : Int) (List.length x5) fun q3 => (bindR (s_IsName ((List.getD x5 q3 ([] : List UInt8)), ())) fun r4 => (iteB (notB r4.1) (f2 x5 true m1000000) (mustR (decide (0 ≤ (3 : Int))) (mustR (decide ((3 : Int) ≤ (((List.length x5) : Nat) : Int))) (bindR (s_gram_areNames ((List.drop (Int.toNat (3 : Int)) (List.take (List.length x5) x5)), ())) fun r5 => (f2 x5 (notB r5.1) m1000000))))))))
def p1 (k : Nat) : T1 := t1 (p2 k)
theorem o1 (k : Nat) : l1 true k = p1 k := lfo (b := l1 false k) (fx3 fun _ _ _ => lcR) (by kernel_rfl) (congrArg t1 (o2 k))
def t0 (f1 : T1) : T0 := fun a => (bindR (s_gram_words (a.2.1, ())) fun r1 => (iteB (decide (((List.length r1.1 : Nat) : Int) < (3 : Int))) (f1 r1.1 true a.1) (withinR (2 : Int) (List.length r1.1) fun q2 => (f1 r1.1 (!(decide ((List.getD r1.1 q2 ([] : List UInt8)) = ([58] : List UInt8)))) a.1))))
def p0 (k : Nat) : T0 := t0 (p1 k)
theorem o0 (k : Nat) : u0 k = p0 k := Eq.trans (by kernel_rfl) (congrArg t0 (o1 k))
end gram_reading_rule
def s_gram_reading_rule (a : D18) : Option D16 := gram_reading_rule.p0 fuel a
def F_gram_reading_rule : FSpec cx.toNm := { ps := [.io t17 m_3, .val .str], nres := 1, rt := (.int .i64), rm := .ro, f := s_gram_reading_rule }
theorem ok_gram_reading_rule : FnOk Tryz.prog F_gram_reading_rule 59 := fn_of (F := F_gram_reading_rule) (hn := gram_reading_rule.h) (E := gram_reading_rule.E) cxOk (tysT _ _ _) (fs_cons ok_IsName (fs_cons ok_gram_areNames (fs_cons ok_gram_words fs_nil))) follows Tryz.func59 (by kernel_rfl) (fun a r h => ⟨fuel, (congrFun (gram_reading_rule.o0 fuel) a).trans ((by kernel_rfl : s_gram_reading_rule a = F_gram_reading_rule.f a).trans h)⟩)
namespace slices_Index
def E : Env cx := { tys := tys, fs := fsOf [] }
abbrev R := Option (D27)
def h : Hint := { vs := [0, 1, 4, 5, 7, 8], ret := ([4], []), cuts := [(2, ([0, 1, 7, 8], []), ([], [])), (7, ([], []), ([], []))] }
def W : Pr cx (D27) := ⟨E, h, bodyC Tryz.f73, fin (S := cx) E Tryz.f73.results.toList (.int .i64) .ro [] []⟩
abbrev T2 := R
abbrev T1 := D4 → (List UInt8) → Int → Int → R
abbrev T0 := D28 → R
def u0 (k : Nat) : T0 := fun a => runOf (S := cx) E h k Tryz.f73 [.val t5, .val .str] (.int .i64) .ro a
abbrev l2 (c : Bool) (k : Nat) : T2 := lfR c W k [1, 1] [] ⟨[], [], []⟩
abbrev l1 (c : Bool) (k n1 : Nat) : T1 := fun x0 x1 x7 x8 => lfL c W k [1, 0, 1, 0] [] n1 ⟨[(0, vR t5 x0), (1, vS x1), (7, vI x7), (8, vI x8)], [], []⟩
def t2 : T2 := (some ((-1 : Int), ()))
def p2 (k : Nat) : T2 := t2
theorem o2 (k : Nat) : l2 true k = p2 k := lfo (b := l2 false k) lcR (by kernel_rfl) rfl
def t1 (f1 : T1) (f2 : T2) : T1 := fun x0 x1 x7 x8 => (iteB (decide (x8 < x7)) (withinR x8 (List.length x0) fun q1 => (iteB (decide (x1 = (List.getD x0 q1 ([] : List UInt8)))) (some (x8, ())) (f1 x0 x1 x7 (w64 (x8 + (1 : Int)))))) f2)
def p1 (k : Nat) : Nat → T1 := iter fun f => t1 f (p2 k)
theorem o1 (k : Nat) : ∀ n, l1 true k n = p1 k n := oL (u := l1 false k) (by kernel_rfl) (fun n1 => (fx4 fun _ _ _ _ => lcL)) (fun n1 => by kernel_rfl) (fun n1 f h => (congr (congrArg t1 h) (o2 k)))
def t0 (f1 : T1) : T0 := fun a => (f1 a.1 a.2.1 ((List.length a.1 : Nat) : Int) (0 : Int))
def p0 (k : Nat) : T0 := t0 (p1 k k)
theorem o0 (k : Nat) : u0 k = p0 k := Eq.trans (by kernel_rfl) (congrArg t0 (o1 k k))
end slices_Index
def s_slices_Index (a : D28) : Option D27 := slices_Index.p0 fuel a
def F_slices_Index : FSpec cx.toNm := { ps := [.val t5, .val .str], nres := 1, rt := (.int .i64), rm := .ro, f := s_slices_Index }
theorem ok_slices_Index : FnOk Tryz.prog F_slices_Index 73 := fn_of (F := F_slices_Index) (hn := slices_Index.h) (E := slices_Index.E) cxOk (tysT _ _ _) fs_nil follows Tryz.func73 (by kernel_rfl) (fun a r h => ⟨fuel, (congrFun (slices_Index.o0 fuel) a).trans ((by kernel_rfl : s_slices_Index a = F_slices_Index.f a).trans h)⟩)
namespace gram_arity
def E : Env cx := { tys := tys, fs := fsOf [] }
abbrev R := Option (D19)
def h : Hint := { vs := [0, 1, 4, 5], ret := ([4], []) }
def W : Pr cx (D19) := ⟨E, h, bodyC Tryz.f30, fin (S := cx) E Tryz.f30.results.toList .bool .ro [] []⟩
abbrev T0 := D29 → R
def u0 (k : Nat) : T0 := fun a => runOf (S := cx) E h k Tryz.f30 [.val (.int .u8), .val (.int .i64)] .bool .ro a
def t0 : T0 := fun a => (iteB (decide (a.1 = (1 : Int))) (iteB (decide (a.2.1 = (2 : Int))) (some (true, ())) (some ((decide (a.2.1 = (3 : Int))), ()))) (iteB (decide (a.1 = (2 : Int))) (some ((decide (a.2.1 = (4 : Int))), ())) (iteB (decide (a.1 = (3 : Int))) (some ((decide (a.2.1 = (2 : Int))), ())) (some (false, ())))))
def p0 (k : Nat) : T0 := t0
theorem o0 (k : Nat) : u0 k = p0 k := Eq.trans (by kernel_rfl) rfl
end gram_arity
def s_gram_arity (a : D29) : Option D19 := gram_arity.p0 fuel a
def F_gram_arity : FSpec cx.toNm := { ps := [.val (.int .u8), .val (.int .i64)], nres := 1, rt := .bool, rm := .ro, f := s_gram_arity }
theorem ok_gram_arity : FnOk Tryz.prog F_gram_arity 30 := fn_of (F := F_gram_arity) (hn := gram_arity.h) (E := gram_arity.E) cxOk (tysT _ _ _) fs_nil follows Tryz.func30 (by kernel_rfl) (fun a r h => ⟨fuel, (congrFun (gram_arity.o0 fuel) a).trans ((by kernel_rfl : s_gram_arity a = F_gram_arity.f a).trans h)⟩)
namespace gram_reading_note
def E : Env cx := { tys := tys, fs := fsOf [(19, F_kinds), (30, F_gram_arity), (31, F_gram_areNames), (54, F_gram_words), (73, F_slices_Index)] }
abbrev R := Option (D16)
def h : Hint := { vs := [0, 1, 4, 5, 6], ret := ([0, 4], [1000000]), ords := [(2, [1, 2, 3, 0, 4, 5, 6])] }
def W : Pr cx (D16) := ⟨E, h, bodyC Tryz.f60, fin (S := cx) E Tryz.f60.results.toList (.int .i64) .ro [1000000] [(t17, m_3)]⟩
abbrev T0 := D18 → R
def u0 (k : Nat) : T0 := fun a => runOf (S := cx) E h k Tryz.f60 [.io t17 m_3, .val .str] (.int .i64) .ro a
def t0 : T0 := fun a => (bindR (s_gram_words (a.2.1, ())) fun r1 => (withinR (0 : Int) (List.length r1.1) fun q2 => (bindR (s_kinds ()) fun r3 => (bindR (s_slices_Index (r3.1, ((List.getD r1.1 q2 ([] : List UInt8)), ()))) fun r4 => (bindR (s_gram_arity ((w8 (r4.1)), ((w64 (((List.length r1.1 : Nat) : Int) - (1 : Int))), ()))) fun r5 => (iteB (notB r5.1) (some ((30 : Int), (a.1, ()))) (mustR (decide (0 ≤ (1 : Int))) (mustR (decide ((1 : Int) ≤ (((List.length r1.1) : Nat) : Int))) (bindR (s_gram_areNames ((List.drop (Int.toNat (1 : Int)) (List.take (List.length r1.1) r1.1)), ())) fun r6 => (iteB (notB r6.1) (some ((31 : Int), (a.1, ()))) (iteB (decide (((List.length a.1.1.2.2.2 : Nat) : Int) = (16 : Int))) (some ((21 : Int), (a.1, ()))) (mustR (decide (0 ≤ (1 : Int))) (mustR (decide ((1 : Int) ≤ (((List.length r1.1) : Nat) : Int))) (mustR (room a.1.1.2.2.2 ([((w8 (r4.1)), (List.drop (Int.toNat (1 : Int)) (List.take (List.length r1.1) r1.1)))] : List (D7))) (some ((0 : Int), (((a.1.1.1, (a.1.1.2.1, (a.1.1.2.2.1, (a.1.1.2.2.2 ++ ([((w8 (r4.1)), (List.drop (Int.toNat (1 : Int)) (List.take (List.length r1.1) r1.1)))] : List (D7)))))), a.1.2), ())))))))))))))))))
def p0 (k : Nat) : T0 := t0
theorem o0 (k : Nat) : u0 k = p0 k := Eq.trans (by kernel_rfl) rfl
end gram_reading_note
def s_gram_reading_note (a : D18) : Option D16 := gram_reading_note.p0 fuel a
def F_gram_reading_note : FSpec cx.toNm := { ps := [.io t17 m_3, .val .str], nres := 1, rt := (.int .i64), rm := .ro, f := s_gram_reading_note }
theorem ok_gram_reading_note : FnOk Tryz.prog F_gram_reading_note 60 := fn_of (F := F_gram_reading_note) (hn := gram_reading_note.h) (E := gram_reading_note.E) cxOk (tysT _ _ _) (fs_cons ok_kinds (fs_cons ok_gram_arity (fs_cons ok_gram_areNames (fs_cons ok_gram_words (fs_cons ok_slices_Index fs_nil))))) follows Tryz.func60 (by kernel_rfl) (fun a r h => ⟨fuel, (congrFun (gram_reading_note.o0 fuel) a).trans ((by kernel_rfl : s_gram_reading_note a = F_gram_reading_note.f a).trans h)⟩)
namespace internal_stringslite_HasPrefix
def E : Env cx := { tys := tys, fs := fsOf [] }
abbrev R := Option (D19)
def h : Hint := { vs := [0, 1, 4], ret := ([4], []) }
def W : Pr cx (D19) := ⟨E, h, bodyC Tryz.f71, fin (S := cx) E Tryz.f71.results.toList .bool .ro [] []⟩
abbrev T0 := D20 → R
def u0 (k : Nat) : T0 := fun a => runOf (S := cx) E h k Tryz.f71 [.val .str, .val .str] .bool .ro a
def t0 : T0 := fun a => (iteB (decide (((List.length a.2.1 : Nat) : Int) ≤ ((List.length a.1 : Nat) : Int))) (mustR (decide (0 ≤ ((List.length a.2.1 : Nat) : Int))) (mustR (decide (((List.length a.2.1 : Nat) : Int) ≤ (((List.length a.1) : Nat) : Int))) (some ((decide ((List.drop 0 (List.take (Int.toNat ((List.length a.2.1 : Nat) : Int)) a.1)) = a.2.1)), ())))) (some (false, ())))
def p0 (k : Nat) : T0 := t0
theorem o0 (k : Nat) : u0 k = p0 k := Eq.trans (by kernel_rfl) rfl
end internal_stringslite_HasPrefix
def s_internal_stringslite_HasPrefix (a : D20) : Option D19 := internal_stringslite_HasPrefix.p0 fuel a
def F_internal_stringslite_HasPrefix : FSpec cx.toNm := { ps := [.val .str, .val .str], nres := 1, rt := .bool, rm := .ro, f := s_internal_stringslite_HasPrefix }
theorem ok_internal_stringslite_HasPrefix : FnOk Tryz.prog F_internal_stringslite_HasPrefix 71 := fn_of (F := F_internal_stringslite_HasPrefix) (hn := internal_stringslite_HasPrefix.h) (E := internal_stringslite_HasPrefix.E) cxOk (tysT _ _ _) fs_nil follows Tryz.func71 (by kernel_rfl) (fun a r h => ⟨fuel, (congrFun (internal_stringslite_HasPrefix.o0 fuel) a).trans ((by kernel_rfl : s_internal_stringslite_HasPrefix a = F_internal_stringslite_HasPrefix.f a).trans h)⟩)
namespace strings_HasPrefix
def E : Env cx := { tys := tys, fs := fsOf [(71, F_internal_stringslite_HasPrefix)] }
abbrev R := Option (D19)
def h : Hint := { vs := [0, 1, 4], ret := ([4], []) }
def W : Pr cx (D19) := ⟨E, h, bodyC Tryz.f55, fin (S := cx) E Tryz.f55.results.toList .bool .ro [] []⟩
abbrev T0 := D20 → R
def u0 (k : Nat) : T0 := fun a => runOf (S := cx) E h k Tryz.f55 [.val .str, .val .str] .bool .ro a
def t0 : T0 := fun a => (bindR (s_internal_stringslite_HasPrefix (a.1, (a.2.1, ()))) fun r1 => (some (r1.1, ())))
def p0 (k : Nat) : T0 := t0
theorem o0 (k : Nat) : u0 k = p0 k := Eq.trans (by kernel_rfl) rfl
end strings_HasPrefix
def s_strings_HasPrefix (a : D20) : Option D19 := strings_HasPrefix.p0 fuel a
def F_strings_HasPrefix : FSpec cx.toNm := { ps := [.val .str, .val .str], nres := 1, rt := .bool, rm := .ro, f := s_strings_HasPrefix }
theorem ok_strings_HasPrefix : FnOk Tryz.prog F_strings_HasPrefix 55 := fn_of (F := F_strings_HasPrefix) (hn := strings_HasPrefix.h) (E := strings_HasPrefix.E) cxOk (tysT _ _ _) (fs_cons ok_internal_stringslite_HasPrefix fs_nil) follows Tryz.func55 (by kernel_rfl) (fun a r h => ⟨fuel, (congrFun (strings_HasPrefix.o0 fuel) a).trans ((by kernel_rfl : s_strings_HasPrefix a = F_strings_HasPrefix.f a).trans h)⟩)
namespace gram_Right_3
def E : Env cx := { tys := tys, fs := fsOf [(30, F_gram_arity), (31, F_gram_areNames)] }
abbrev R := Option (D19)
def h : Hint := { vs := [0, 1, 2], ret := ([2], [1]) }
def W : Pr cx (D19) := ⟨E, h, bodyC Tryz.f29, fin (S := cx) E Tryz.f29.results.toList .bool .ro [] []⟩
abbrev T0 := D45 → R
def u0 (k : Nat) : T0 := fun a => runOf (S := cx) E h k Tryz.f29 [.val t10] .bool .ro a
def t0 : T0 := fun a => (bindR (s_gram_arity (a.1.1, (((List.length a.1.2 : Nat) : Int), ()))) fun r1 => (iteB (notB r1.1) (some (true, ())) (bindR (s_gram_areNames (a.1.2, ())) fun r2 => (some ((notB r2.1), ())))))
def p0 (k : Nat) : T0 := t0
theorem o0 (k : Nat) : u0 k = p0 k := Eq.trans (by kernel_rfl) rfl
end gram_Right_3
def s_gram_Right_3 (a : D45) : Option D19 := gram_Right_3.p0 fuel a
def F_gram_Right_3 : FSpec cx.toNm := { ps := [.val t10], nres := 1, rt := .bool, rm := .ro, f := s_gram_Right_3 }
theorem ok_gram_Right_3 : FnOk Tryz.prog F_gram_Right_3 29 := fn_of (F := F_gram_Right_3) (hn := gram_Right_3.h) (E := gram_Right_3.E) cxOk (tysT _ _ _) (fs_cons ok_gram_arity (fs_cons ok_gram_areNames fs_nil)) follows Tryz.func29 (by kernel_rfl) (fun a r h => ⟨fuel, (congrFun (gram_Right_3.o0 fuel) a).trans ((by kernel_rfl : s_gram_Right_3 a = F_gram_Right_3.f a).trans h)⟩)
namespace slices_IndexFuncxx
def E : Env cx := { tys := tys, fs := fsOf [(29, F_gram_Right_3)] }
abbrev R := Option (D27)
def h : Hint := { vs := [0, 1, 4, 5, 7, 8], ret := ([4], []), cuts := [(2, ([0, 1, 7, 8], []), ([], [])), (7, ([], []), ([], []))] }
def W : Pr cx (D27) := ⟨E, h, bodyC Tryz.f48, fin (S := cx) E Tryz.f48.results.toList (.int .i64) .ro [] []⟩
abbrev T2 := R
abbrev T1 := D8 → Unit → Int → Int → R
abbrev T0 := D33 → R
def u0 (k : Nat) : T0 := fun a => runOf (S := cx) E h k Tryz.f48 [.val t11, .val t22] (.int .i64) .ro a
abbrev l2 (c : Bool) (k : Nat) : T2 := lfR c W k [1, 1] [] ⟨[], [], []⟩
abbrev l1 (c : Bool) (k n1 : Nat) : T1 := fun x0 x1 x7 x8 => lfL c W k [1, 0, 1, 0] [] n1 ⟨[(0, vR t11 x0), (1, vR t22 x1), (7, vI x7), (8, vI x8)], [], []⟩
def t2 : T2 := (some ((-1 : Int), ()))
def p2 (k : Nat) : T2 := t2
theorem o2 (k : Nat) : l2 true k = p2 k := lfo (b := l2 false k) lcR (by kernel_rfl) rfl
def t1 (f1 : T1) (f2 : T2) : T1 := fun x0 x1 x7 x8 => (iteB (decide (x8 < x7)) (withinR x8 (List.length x0) fun q1 => (bindR (s_gram_Right_3 ((List.getD x0 q1 ((0 : Int), ([] : List (List UInt8)))), ())) fun r2 => (iteB r2.1 (some (x8, ())) (f1 x0 x1 x7 (w64 (x8 + (1 : Int))))))) f2)
def p1 (k : Nat) : Nat → T1 := iter fun f => t1 f (p2 k)
theorem o1 (k : Nat) : ∀ n, l1 true k n = p1 k n := oL (u := l1 false k) (by kernel_rfl) (fun n1 => (fx4 fun _ _ _ _ => lcL)) (fun n1 => by kernel_rfl) (fun n1 f h => (congr (congrArg t1 h) (o2 k)))
def t0 (f1 : T1) : T0 := fun a => (f1 a.1 a.2.1 ((List.length a.1 : Nat) : Int) (0 : Int))
def p0 (k : Nat) : T0 := t0 (p1 k k)
theorem o0 (k : Nat) : u0 k = p0 k := Eq.trans (by kernel_rfl) (congrArg t0 (o1 k k))
end slices_IndexFuncxx
def s_slices_IndexFuncxx (a : D33) : Option D27 := slices_IndexFuncxx.p0 fuel a
def F_slices_IndexFuncxx : FSpec cx.toNm := { ps := [.val t11, .val t22], nres := 1, rt := (.int .i64), rm := .ro, f := s_slices_IndexFuncxx }
theorem ok_slices_IndexFuncxx : FnOk Tryz.prog F_slices_IndexFuncxx 48 := fn_of (F := F_slices_IndexFuncxx) (hn := slices_IndexFuncxx.h) (E := slices_IndexFuncxx.E) cxOk (tysT _ _ _) (fs_cons ok_gram_Right_3 fs_nil) follows Tryz.func48 (by kernel_rfl) (fun a r h => ⟨fuel, (congrFun (slices_IndexFuncxx.o0 fuel) a).trans ((by kernel_rfl : s_slices_IndexFuncxx a = F_slices_IndexFuncxx.f a).trans h)⟩)
namespace slices_ContainsFuncxx
def E : Env cx := { tys := tys, fs := fsOf [(48, F_slices_IndexFuncxx)] }
abbrev R := Option (D19)
def h : Hint := { vs := [0, 1, 4], ret := ([4], []) }
def W : Pr cx (D19) := ⟨E, h, bodyC Tryz.f28, fin (S := cx) E Tryz.f28.results.toList .bool .ro [] []⟩
abbrev T0 := D33 → R
def u0 (k : Nat) : T0 := fun a => runOf (S := cx) E h k Tryz.f28 [.val t11, .val t22] .bool .ro a
def t0 : T0 := fun a => (bindR (s_slices_IndexFuncxx (a.1, (a.2.1, ()))) fun r1 => (some ((decide ((0 : Int) ≤ r1.1)), ())))
def p0 (k : Nat) : T0 := t0
theorem o0 (k : Nat) : u0 k = p0 k := Eq.trans (by kernel_rfl) rfl
end slices_ContainsFuncxx
def s_slices_ContainsFuncxx (a : D33) : Option D19 := slices_ContainsFuncxx.p0 fuel a
def F_slices_ContainsFuncxx : FSpec cx.toNm := { ps := [.val t11, .val t22], nres := 1, rt := .bool, rm := .ro, f := s_slices_ContainsFuncxx }
theorem ok_slices_ContainsFuncxx : FnOk Tryz.prog F_slices_ContainsFuncxx 28 := fn_of (F := F_slices_ContainsFuncxx) (hn := slices_ContainsFuncxx.h) (E := slices_ContainsFuncxx.E) cxOk (tysT _ _ _) (fs_cons ok_slices_IndexFuncxx fs_nil) follows Tryz.func28 (by kernel_rfl) (fun a r h => ⟨fuel, (congrFun (slices_ContainsFuncxx.o0 fuel) a).trans ((by kernel_rfl : s_slices_ContainsFuncxx a = F_slices_ContainsFuncxx.f a).trans h)⟩)
namespace gram_rightProd
def E : Env cx := { tys := tys, fs := fsOf [(10, F_IsName), (31, F_gram_areNames)] }
abbrev R := Option (D19)
def h : Hint := { vs := [0, 1, 2], ret := ([2], [1]) }
def W : Pr cx (D19) := ⟨E, h, bodyC Tryz.f27, fin (S := cx) E Tryz.f27.results.toList .bool .ro [] []⟩
abbrev T0 := D44 → R
def u0 (k : Nat) : T0 := fun a => runOf (S := cx) E h k Tryz.f27 [.val t7] .bool .ro a
def t0 : T0 := fun a => (bindR (s_IsName (a.1.1, ())) fun r1 => (iteB r1.1 (iteB (decide (((List.length a.1.2 : Nat) : Int) ≤ (8 : Int))) (bindR (s_gram_areNames (a.1.2, ())) fun r2 => (some (r2.1, ()))) (some (false, ()))) (some (false, ()))))
def p0 (k : Nat) : T0 := t0
theorem o0 (k : Nat) : u0 k = p0 k := Eq.trans (by kernel_rfl) rfl
end gram_rightProd
def s_gram_rightProd (a : D44) : Option D19 := gram_rightProd.p0 fuel a
def F_gram_rightProd : FSpec cx.toNm := { ps := [.val t7], nres := 1, rt := .bool, rm := .ro, f := s_gram_rightProd }
theorem ok_gram_rightProd : FnOk Tryz.prog F_gram_rightProd 27 := fn_of (F := F_gram_rightProd) (hn := gram_rightProd.h) (E := gram_rightProd.E) cxOk (tysT _ _ _) (fs_cons ok_IsName (fs_cons ok_gram_areNames fs_nil)) follows Tryz.func27 (by kernel_rfl) (fun a r h => ⟨fuel, (congrFun (gram_rightProd.o0 fuel) a).trans ((by kernel_rfl : s_gram_rightProd a = F_gram_rightProd.f a).trans h)⟩)
namespace gram_Right_2
def E : Env cx := { tys := tys, fs := fsOf [(27, F_gram_rightProd)] }
abbrev R := Option (D19)
def h : Hint := { vs := [0, 1, 2], ret := ([2], [1]) }
def W : Pr cx (D19) := ⟨E, h, bodyC Tryz.f26, fin (S := cx) E Tryz.f26.results.toList .bool .ro [] []⟩
abbrev T0 := D44 → R
def u0 (k : Nat) : T0 := fun a => runOf (S := cx) E h k Tryz.f26 [.val t7] .bool .ro a
def t0 : T0 := fun a => (bindR (s_gram_rightProd (a.1, ())) fun r1 => (some ((notB r1.1), ())))
def p0 (k : Nat) : T0 := t0
theorem o0 (k : Nat) : u0 k = p0 k := Eq.trans (by kernel_rfl) rfl
end gram_Right_2
def s_gram_Right_2 (a : D44) : Option D19 := gram_Right_2.p0 fuel a
def F_gram_Right_2 : FSpec cx.toNm := { ps := [.val t7], nres := 1, rt := .bool, rm := .ro, f := s_gram_Right_2 }
theorem ok_gram_Right_2 : FnOk Tryz.prog F_gram_Right_2 26 := fn_of (F := F_gram_Right_2) (hn := gram_Right_2.h) (E := gram_Right_2.E) cxOk (tysT _ _ _) (fs_cons ok_gram_rightProd fs_nil) follows Tryz.func26 (by kernel_rfl) (fun a r h => ⟨fuel, (congrFun (gram_Right_2.o0 fuel) a).trans ((by kernel_rfl : s_gram_Right_2 a = F_gram_Right_2.f a).trans h)⟩)
namespace slices_IndexFuncx
def E : Env cx := { tys := tys, fs := fsOf [(26, F_gram_Right_2)] }
abbrev R := Option (D27)
def h : Hint := { vs := [0, 1, 4, 5, 7, 8], ret := ([4], []), cuts := [(2, ([0, 1, 7, 8], []), ([], [])), (7, ([], []), ([], []))] }
def W : Pr cx (D27) := ⟨E, h, bodyC Tryz.f47, fin (S := cx) E Tryz.f47.results.toList (.int .i64) .ro [] []⟩
abbrev T2 := R
abbrev T1 := D6 → Unit → Int → Int → R
abbrev T0 := D32 → R
def u0 (k : Nat) : T0 := fun a => runOf (S := cx) E h k Tryz.f47 [.val t8, .val t21] (.int .i64) .ro a
abbrev l2 (c : Bool) (k : Nat) : T2 := lfR c W k [1, 1] [] ⟨[], [], []⟩
abbrev l1 (c : Bool) (k n1 : Nat) : T1 := fun x0 x1 x7 x8 => lfL c W k [1, 0, 1, 0] [] n1 ⟨[(0, vR t8 x0), (1, vR t21 x1), (7, vI x7), (8, vI x8)], [], []⟩
def t2 : T2 := (some ((-1 : Int), ()))
def p2 (k : Nat) : T2 := t2
theorem o2 (k : Nat) : l2 true k = p2 k := lfo (b := l2 false k) lcR (by kernel_rfl) rfl
def t1 (f1 : T1) (f2 : T2) : T1 := fun x0 x1 x7 x8 => (iteB (decide (x8 < x7)) (withinR x8 (List.length x0) fun q1 => (bindR (s_gram_Right_2 ((List.getD x0 q1 (([] : List UInt8), ([] : List (List UInt8)))), ())) fun r2 => (iteB r2.1 (some (x8, ())) (f1 x0 x1 x7 (w64 (x8 + (1 : Int))))))) f2)
def p1 (k : Nat) : Nat → T1 := iter fun f => t1 f (p2 k)
theorem o1 (k : Nat) : ∀ n, l1 true k n = p1 k n := oL (u := l1 false k) (by kernel_rfl) (fun n1 => (fx4 fun _ _ _ _ => lcL)) (fun n1 => by kernel_rfl) (fun n1 f h => (congr (congrArg t1 h) (o2 k)))
def t0 (f1 : T1) : T0 := fun a => (f1 a.1 a.2.1 ((List.length a.1 : Nat) : Int) (0 : Int))
def p0 (k : Nat) : T0 := t0 (p1 k k)
theorem o0 (k : Nat) : u0 k = p0 k := Eq.trans (by kernel_rfl) (congrArg t0 (o1 k k))
end slices_IndexFuncx
def s_slices_IndexFuncx (a : D32) : Option D27 := slices_IndexFuncx.p0 fuel a
def F_slices_IndexFuncx : FSpec cx.toNm := { ps := [.val t8, .val t21], nres := 1, rt := (.int .i64), rm := .ro, f := s_slices_IndexFuncx }
theorem ok_slices_IndexFuncx : FnOk Tryz.prog F_slices_IndexFuncx 47 := fn_of (F := F_slices_IndexFuncx) (hn := slices_IndexFuncx.h) (E := slices_IndexFuncx.E) cxOk (tysT _ _ _) (fs_cons ok_gram_Right_2 fs_nil) follows Tryz.func47 (by kernel_rfl) (fun a r h => ⟨fuel, (congrFun (slices_IndexFuncx.o0 fuel) a).trans ((by kernel_rfl : s_slices_IndexFuncx a = F_slices_IndexFuncx.f a).trans h)⟩)
namespace slices_ContainsFuncx
def E : Env cx := { tys := tys, fs := fsOf [(47, F_slices_IndexFuncx)] }
abbrev R := Option (D19)
def h : Hint := { vs := [0, 1, 4], ret := ([4], []) }
def W : Pr cx (D19) := ⟨E, h, bodyC Tryz.f25, fin (S := cx) E Tryz.f25.results.toList .bool .ro [] []⟩
abbrev T0 := D32 → R
def u0 (k : Nat) : T0 := fun a => runOf (S := cx) E h k Tryz.f25 [.val t8, .val t21] .bool .ro a
def t0 : T0 := fun a => (bindR (s_slices_IndexFuncx (a.1, (a.2.1, ()))) fun r1 => (some ((decide ((0 : Int) ≤ r1.1)), ())))
def p0 (k : Nat) : T0 := t0
theorem o0 (k : Nat) : u0 k = p0 k := Eq.trans (by kernel_rfl) rfl
end slices_ContainsFuncx
def s_slices_ContainsFuncx (a : D32) : Option D19 := slices_ContainsFuncx.p0 fuel a
def F_slices_ContainsFuncx : FSpec cx.toNm := { ps := [.val t8, .val t21], nres := 1, rt := .bool, rm := .ro, f := s_slices_ContainsFuncx }
theorem ok_slices_ContainsFuncx : FnOk Tryz.prog F_slices_ContainsFuncx 25 := fn_of (F := F_slices_ContainsFuncx) (hn := slices_ContainsFuncx.h) (E := slices_ContainsFuncx.E) cxOk (tysT _ _ _) (fs_cons ok_slices_IndexFuncx fs_nil) follows Tryz.func25 (by kernel_rfl) (fun a r h => ⟨fuel, (congrFun (slices_ContainsFuncx.o0 fuel) a).trans ((by kernel_rfl : s_slices_ContainsFuncx a = F_slices_ContainsFuncx.f a).trans h)⟩)
namespace strings_Contains
def E : Env cx := { tys := tys, fs := fsOf [(64, F_strings_Index)] }
abbrev R := Option (D19)
def h : Hint := { vs := [0, 1, 4], ret := ([4], []) }
def W : Pr cx (D19) := ⟨E, h, bodyC Tryz.f46, fin (S := cx) E Tryz.f46.results.toList .bool .ro [] []⟩
abbrev T0 := D20 → R
def u0 (k : Nat) : T0 := fun a => runOf (S := cx) E h k Tryz.f46 [.val .str, .val .str] .bool .ro a
def t0 : T0 := fun a => (bindR (s_strings_Index (a.1, (a.2.1, ()))) fun r1 => (some ((decide ((0 : Int) ≤ r1.1)), ())))
def p0 (k : Nat) : T0 := t0
theorem o0 (k : Nat) : u0 k = p0 k := Eq.trans (by kernel_rfl) rfl
end strings_Contains
def s_strings_Contains (a : D20) : Option D19 := strings_Contains.p0 fuel a
def F_strings_Contains : FSpec cx.toNm := { ps := [.val .str, .val .str], nres := 1, rt := .bool, rm := .ro, f := s_strings_Contains }
theorem ok_strings_Contains : FnOk Tryz.prog F_strings_Contains 46 := fn_of (F := F_strings_Contains) (hn := strings_Contains.h) (E := strings_Contains.E) cxOk (tysT _ _ _) (fs_cons ok_strings_Index fs_nil) follows Tryz.func46 (by kernel_rfl) (fun a r h => ⟨fuel, (congrFun (strings_Contains.o0 fuel) a).trans ((by kernel_rfl : s_strings_Contains a = F_strings_Contains.f a).trans h)⟩)
namespace runes_isFollower
def E : Env cx := { tys := tys, fs := fsOf [] }
abbrev R := Option (D19)
def h : Hint := { vs := [0, 2], ret := ([2], []) }
def W : Pr cx (D19) := ⟨E, h, bodyC Tryz.f79, fin (S := cx) E Tryz.f79.results.toList .bool .ro [] []⟩
abbrev T0 := D27 → R
def u0 (k : Nat) : T0 := fun a => runOf (S := cx) E h k Tryz.f79 [.val (.int .u8)] .bool .ro a
def t0 : T0 := fun a => (some ((decide ((bitI .and .u8 a.1 (192 : Int)) = (128 : Int))), ()))
def p0 (k : Nat) : T0 := t0
theorem o0 (k : Nat) : u0 k = p0 k := Eq.trans (by kernel_rfl) rfl
end runes_isFollower
def s_runes_isFollower (a : D27) : Option D19 := runes_isFollower.p0 fuel a
def F_runes_isFollower : FSpec cx.toNm := { ps := [.val (.int .u8)], nres := 1, rt := .bool, rm := .ro, f := s_runes_isFollower }
theorem ok_runes_isFollower : FnOk Tryz.prog F_runes_isFollower 79 := fn_of (F := F_runes_isFollower) (hn := runes_isFollower.h) (E := runes_isFollower.E) cxOk (tysT _ _ _) fs_nil follows Tryz.func79 (by kernel_rfl) (fun a r h => ⟨fuel, (congrFun (runes_isFollower.o0 fuel) a).trans ((by kernel_rfl : s_runes_isFollower a = F_runes_isFollower.f a).trans h)⟩)
namespace runes_isSign
def E : Env cx := { tys := tys, fs := fsOf [] }
abbrev R := Option (D19)
def h : Hint := { vs := [0, 2], ret := ([2], []) }
def W : Pr cx (D19) := ⟨E, h, bodyC Tryz.f80, fin (S := cx) E Tryz.f80.results.toList .bool .ro [] []⟩
abbrev T0 := D27 → R
def u0 (k : Nat) : T0 := fun a => runOf (S := cx) E h k Tryz.f80 [.val (.int .i64)] .bool .ro a
def t0 : T0 := fun a => (iteB (decide ((0 : Int) ≤ a.1)) (iteB (decide (a.1 < (1114112 : Int))) (iteB (decide (a.1 < (55296 : Int))) (some (true, ())) (some ((decide ((57343 : Int) < a.1)), ()))) (some (false, ()))) (some (false, ())))
def p0 (k : Nat) : T0 := t0
theorem o0 (k : Nat) : u0 k = p0 k := Eq.trans (by kernel_rfl) rfl
end runes_isSign
def s_runes_isSign (a : D27) : Option D19 := runes_isSign.p0 fuel a
def F_runes_isSign : FSpec cx.toNm := { ps := [.val (.int .i64)], nres := 1, rt := .bool, rm := .ro, f := s_runes_isSign }
theorem ok_runes_isSign : FnOk Tryz.prog F_runes_isSign 80 := fn_of (F := F_runes_isSign) (hn := runes_isSign.h) (E := runes_isSign.E) cxOk (tysT _ _ _) fs_nil follows Tryz.func80 (by kernel_rfl) (fun a r h => ⟨fuel, (congrFun (runes_isSign.o0 fuel) a).trans ((by kernel_rfl : s_runes_isSign a = F_runes_isSign.f a).trans h)⟩)
namespace runes_shapeOf
def E : Env cx := { tys := tys, fs := fsOf [] }
abbrev R := Option (D47)
def h : Hint := { vs := [0, 2], ret := ([2], [2]), cuts := [(4, ([0, 2, 7], [2]), ([2], [2])), (6, ([0, 2, 15], [2]), ([2], [2])), (8, ([2, 23], [2]), ([2], [2])), (9, ([2], [2]), ([2], [2]))] }
def W : Pr cx (D47) := ⟨E, h, bodyC Tryz.f78, fin (S := cx) E Tryz.f78.results.toList t28 .ro [] []⟩
abbrev T4 := D14 → R
abbrev T3 := Bool → D14 → R
abbrev T2 := Int → Bool → D14 → R
abbrev T1 := Int → Bool → D14 → R
abbrev T0 := D27 → R
def u0 (k : Nat) : T0 := fun a => runOf (S := cx) E h k Tryz.f78 [.val (.int .u8)] t28 .ro a
abbrev l4 (c : Bool) (k : Nat) : T4 := fun m2 => lfR c W k [1, 1] [] ⟨[(2, vA 2)], [], [(2, ⟨t28, .ro, m2⟩)]⟩
abbrev l3 (c : Bool) (k : Nat) : T3 := fun x23 m2 => lfR c W k [1, 0, 0, 1, 1, 1, 1, 1, 1, 1] [] ⟨[(2, vA 2), (23, vB x23)], [], [(2, ⟨t28, .ro, m2⟩)]⟩
abbrev l2 (c : Bool) (k : Nat) : T2 := fun x0 x15 m2 => lfR c W k [1, 0, 0, 1, 1, 1, 1, 1] [] ⟨[(0, vR (.int .u8) x0), (2, vA 2), (15, vB x15)], [], [(2, ⟨t28, .ro, m2⟩)]⟩
abbrev l1 (c : Bool) (k : Nat) : T1 := fun x0 x7 m2 => lfR c W k [1, 0, 0, 1, 1, 1] [] ⟨[(0, vR (.int .u8) x0), (2, vA 2), (7, vB x7)], [], [(2, ⟨t28, .ro, m2⟩)]⟩
def t4 : T4 := fun m2 => (some (((0 : Int), ((0 : Int), (0 : Int))), ()))
def p4 (k : Nat) : T4 := t4
theorem o4 (k : Nat) : l4 true k = p4 k := lfo (b := l4 false k) (fx1 fun _ => lcR) (by kernel_rfl) rfl
def t3 (f4 : T4) : T3 := fun x23 m2 => (iteB x23 (some (((4 : Int), ((240 : Int), (65536 : Int))), ())) (f4 m2))
def p3 (k : Nat) : T3 := t3 (p4 k)
theorem o3 (k : Nat) : l3 true k = p3 k := lfo (b := l3 false k) (fx2 fun _ _ => lcR) (by kernel_rfl) (congrArg t3 (o4 k))
def t2 (f3 : T3) : T2 := fun x0 x15 m2 => (iteB x15 (some (((3 : Int), ((224 : Int), (2048 : Int))), ())) (iteB (decide ((240 : Int) ≤ x0)) (f3 (decide (x0 < (248 : Int))) m2) (f3 false m2)))
def p2 (k : Nat) : T2 := t2 (p3 k)
theorem o2 (k : Nat) : l2 true k = p2 k := lfo (b := l2 false k) (fx3 fun _ _ _ => lcR) (by kernel_rfl) (congrArg t2 (o3 k))
def t1 (f2 : T2) : T1 := fun x0 x7 m2 => (iteB x7 (some (((2 : Int), ((192 : Int), (128 : Int))), ())) (iteB (decide ((224 : Int) ≤ x0)) (f2 x0 (decide (x0 < (240 : Int))) m2) (f2 x0 false m2)))
def p1 (k : Nat) : T1 := t1 (p2 k)
theorem o1 (k : Nat) : l1 true k = p1 k := lfo (b := l1 false k) (fx3 fun _ _ _ => lcR) (by kernel_rfl) (congrArg t1 (o2 k))
def t0 (f1 : T1) : T0 := fun a => (iteB (decide (a.1 < (128 : Int))) (some (((1 : Int), ((0 : Int), (0 : Int))), ())) (iteB (decide ((192 : Int) ≤ a.1)) (f1 a.1 (decide (a.1 < (224 : Int))) ((0 : Int), ((0 : Int), (0 : Int)))) (f1 a.1 false ((0 : Int), ((0 : Int), (0 : Int))))))
def p0 (k : Nat) : T0 := t0 (p1 k)
theorem o0 (k : Nat) : u0 k = p0 k := Eq.trans (by kernel_rfl) (congrArg t0 (o1 k))
end runes_shapeOf
def s_runes_shapeOf (a : D27) : Option D47 := runes_shapeOf.p0 fuel a
def F_runes_shapeOf : FSpec cx.toNm := { ps := [.val (.int .u8)], nres := 1, rt := t28, rm := .ro, f := s_runes_shapeOf }
theorem ok_runes_shapeOf : FnOk Tryz.prog F_runes_shapeOf 78 := fn_of (F := F_runes_shapeOf) (hn := runes_shapeOf.h) (E := runes_shapeOf.E) cxOk (tysT _ _ _) fs_nil follows Tryz.func78 (by kernel_rfl) (fun a r h => ⟨fuel, (congrFun (runes_shapeOf.o0 fuel) a).trans ((by kernel_rfl : s_runes_shapeOf a = F_runes_shapeOf.f a).trans h)⟩)
namespace runes_First
def E : Env cx := { tys := tys, fs := fsOf [(78, F_runes_shapeOf), (79, F_runes_isFollower), (80, F_runes_isSign)] }
abbrev R := Option (D39)
def h : Hint := { vs := [0, 2, 3, 4, 5, 6], ret := ([2, 3], [4]), cuts := [(5, ([0, 4, 21], [4]), ([0, 4], [4])), (6, ([0, 4], [4]), ([0, 4], [4])), (8, ([0, 4, 5, 6], [4]), ([4, 5], [4])), (13, ([4, 5], [4]), ([4, 5], [4])), (14, ([4, 5, 55], [4]), ([4, 5], [4])), (15, ([4, 5], [4]), ([4, 5], [4]))] }
def W : Pr cx (D39) := ⟨E, h, bodyC Tryz.f68, fin (S := cx) E Tryz.f68.results.toList t25 .ro [] []⟩
abbrev T6 := Int → D14 → R
abbrev T5 := Int → Bool → D14 → R
abbrev T4 := Int → D14 → R
abbrev T3 := (List UInt8) → Int → Int → D14 → R
abbrev T2 := (List UInt8) → D14 → R
abbrev T1 := (List UInt8) → Bool → D14 → R
abbrev T0 := D17 → R
def u0 (k : Nat) : T0 := fun a => runOf (S := cx) E h k Tryz.f68 [.val .str] t25 .ro a
abbrev l6 (c : Bool) (k : Nat) : T6 := fun x5 m4 => lfR c W k [1, 1, 1, 1, 1, 1, 1] [] ⟨[(4, vA 4), (5, vI x5)], [], [(4, ⟨t28, .ro, m4⟩)]⟩
abbrev l5 (c : Bool) (k : Nat) : T5 := fun x5 x55 m4 => lfR c W k [1, 1, 1, 1, 1, 1, 0, 1] [] ⟨[(4, vA 4), (5, vI x5), (55, vB x55)], [], [(4, ⟨t28, .ro, m4⟩)]⟩
abbrev l4 (c : Bool) (k : Nat) : T4 := fun x5 m4 => lfR c W k [1, 1, 1, 1, 1, 1] [] ⟨[(4, vA 4), (5, vI x5)], [], [(4, ⟨t28, .ro, m4⟩)]⟩
abbrev l3 (c : Bool) (k n3 : Nat) : T3 := fun x0 x5 x6 m4 => lfL c W k [1, 1, 1, 1, 1, 0, 1, 0] [] n3 ⟨[(0, vS x0), (4, vA 4), (5, vI x5), (6, vI x6)], [], [(4, ⟨t28, .ro, m4⟩)]⟩
abbrev l2 (c : Bool) (k : Nat) : T2 := fun x0 m4 => lfR c W k [1, 1, 1, 1] [] ⟨[(0, vS x0), (4, vA 4)], [], [(4, ⟨t28, .ro, m4⟩)]⟩
abbrev l1 (c : Bool) (k : Nat) : T1 := fun x0 x21 m4 => lfR c W k [1, 1, 1, 0, 1] [] ⟨[(0, vS x0), (4, vA 4), (21, vB x21)], [], [(4, ⟨t28, .ro, m4⟩)]⟩
def t6 : T6 := fun x5 m4 => (some ((x5, m4.1), ()))
def p6 (k : Nat) : T6 := t6
theorem o6 (k : Nat) : l6 true k = p6 k := lfo (b := l6 false k) (fx2 fun _ _ => lcR) (by kernel_rfl) rfl
def t5 (f6 : T6) : T5 := fun x5 x55 m4 => (iteB x55 (some (((-1 : Int), (0 : Int)), ())) (f6 x5 m4))
def p5 (k : Nat) : T5 := t5 (p6 k)
theorem o5 (k : Nat) : l5 true k = p5 k := lfo (b := l5 false k) (fx3 fun _ _ _ => lcR) (by kernel_rfl) (congrArg t5 (o6 k))
def t4 (f5 : T5) : T4 := fun x5 m4 => (iteB (decide (x5 < m4.2.2)) (f5 x5 true m4) (bindR (s_runes_isSign (x5, ())) fun r7 => (f5 x5 (notB r7.1) m4)))
def p4 (k : Nat) : T4 := t4 (p5 k)
theorem o4 (k : Nat) : l4 true k = p4 k := lfo (b := l4 false k) (fx2 fun _ _ => lcR) (by kernel_rfl) (congrArg t4 (o5 k))
def t3 (f3 : T3) (f4 : T4) : T3 := fun x0 x5 x6 m4 => (iteB (decide (x6 < m4.1)) (withinR x6 (List.length x0) fun q4 => (bindR (s_runes_isFollower ((byteAt x0 q4), ())) fun r5 => (iteB (notB r5.1) (some (((-1 : Int), (0 : Int)), ())) (withinR x6 (List.length x0) fun q6 => (f3 x0 (bitI .or .i64 (shlI .i64 x5 (6 : Int)) (w64 ((bitI .and .u8 (byteAt x0 q6) (63 : Int))))) (w64 (x6 + (1 : Int))) m4))))) (f4 x5 m4))
def p3 (k : Nat) : Nat → T3 := iter fun f => t3 f (p4 k)
theorem o3 (k : Nat) : ∀ n, l3 true k n = p3 k n := oL (u := l3 false k) (by kernel_rfl) (fun n3 => (fx4 fun _ _ _ _ => lcL)) (fun n3 => by kernel_rfl) (fun n3 f h => (congr (congrArg t3 h) (o4 k)))
def t2 (f3 : T3) : T2 := fun x0 m4 => (withinR (0 : Int) (List.length x0) fun q3 => (f3 x0 (w64 ((w64 ((byteAt x0 q3))) - m4.2.1)) (1 : Int) m4))
def p2 (k : Nat) : T2 := t2 (p3 k k)
theorem o2 (k : Nat) : l2 true k = p2 k := lfo (b := l2 false k) (fx2 fun _ _ => lcR) (by kernel_rfl) (congrArg t2 (o3 k k))
def t1 (f2 : T2) : T1 := fun x0 x21 m4 => (iteB x21 (some (((-1 : Int), (0 : Int)), ())) (f2 x0 m4))
def p1 (k : Nat) : T1 := t1 (p2 k)
theorem o1 (k : Nat) : l1 true k = p1 k := lfo (b := l1 false k) (fx3 fun _ _ _ => lcR) (by kernel_rfl) (congrArg t1 (o2 k))
def t0 (f1 : T1) : T0 := fun a => (iteB (decide (a.1 = ([] : List UInt8))) (some (((-1 : Int), (0 : Int)), ())) (withinR (0 : Int) (List.length a.1) fun q1 => (bindR (s_runes_shapeOf ((byteAt a.1 q1), ())) fun r2 => (iteB (decide (r2.1.1 = (0 : Int))) (f1 a.1 true r2.1) (f1 a.1 (decide (((List.length a.1 : Nat) : Int) < r2.1.1)) r2.1)))))
def p0 (k : Nat) : T0 := t0 (p1 k)
theorem o0 (k : Nat) : u0 k = p0 k := Eq.trans (by kernel_rfl) (congrArg t0 (o1 k))
end runes_First
def s_runes_First (a : D17) : Option D39 := runes_First.p0 fuel a
def F_runes_First : FSpec cx.toNm := { ps := [.val .str], nres := 2, rt := t25, rm := .ro, f := s_runes_First }
theorem ok_runes_First : FnOk Tryz.prog F_runes_First 68 := fn_of (F := F_runes_First) (hn := runes_First.h) (E := runes_First.E) cxOk (tysT _ _ _) (fs_cons ok_runes_shapeOf (fs_cons ok_runes_isFollower (fs_cons ok_runes_isSign fs_nil))) follows Tryz.func68 (by kernel_rfl) (fun a r h => ⟨fuel, (congrFun (runes_First.o0 fuel) a).trans ((by kernel_rfl : s_runes_First a = F_runes_First.f a).trans h)⟩)
namespace runes_reader_next
def E : Env cx := { tys := tys, fs := fsOf [(68, F_runes_First)] }
abbrev R := Option (D46)
def h : Hint := { vs := [0, 2, 4], ret := ([0, 2], [1000000]) }
def W : Pr cx (D46) := ⟨E, h, bodyC Tryz.f52, fin (S := cx) E Tryz.f52.results.toList .bool .ro [1000000] [(t26, .ro)]⟩
abbrev T0 := D17 → R
def u0 (k : Nat) : T0 := fun a => runOf (S := cx) E h k Tryz.f52 [.io t26 .ro] .bool .ro a
def t0 : T0 := fun a => (bindR (s_runes_First (a.1, ())) fun r1 => (mustR (decide (0 ≤ r1.1.2)) (mustR (decide (r1.1.2 ≤ (((List.length a.1) : Nat) : Int))) (some ((decide ((0 : Int) < r1.1.2)), ((List.drop (Int.toNat r1.1.2) (List.take (List.length a.1) a.1)), ()))))))
def p0 (k : Nat) : T0 := t0
theorem o0 (k : Nat) : u0 k = p0 k := Eq.trans (by kernel_rfl) rfl
end runes_reader_next
def s_runes_reader_next (a : D17) : Option D46 := runes_reader_next.p0 fuel a
def F_runes_reader_next : FSpec cx.toNm := { ps := [.io t26 .ro], nres := 1, rt := .bool, rm := .ro, f := s_runes_reader_next }
theorem ok_runes_reader_next : FnOk Tryz.prog F_runes_reader_next 52 := fn_of (F := F_runes_reader_next) (hn := runes_reader_next.h) (E := runes_reader_next.E) cxOk (tysT _ _ _) (fs_cons ok_runes_First fs_nil) follows Tryz.func52 (by kernel_rfl) (fun a r h => ⟨fuel, (congrFun (runes_reader_next.o0 fuel) a).trans ((by kernel_rfl : s_runes_reader_next a = F_runes_reader_next.f a).trans h)⟩)
namespace runes_Whole
def E : Env cx := { tys := tys, fs := fsOf [(52, F_runes_reader_next)] }
abbrev R := Option (D19)
def h : Hint := { vs := [0, 2, 3], ret := ([2], [6]), cuts := [(2, ([3], [6]), ([3], [6])), (5, ([], []), ([], []))] }
def W : Pr cx (D19) := ⟨E, h, bodyC Tryz.f36, fin (S := cx) E Tryz.f36.results.toList .bool .ro [] []⟩
abbrev T2 := R
abbrev T1 := (List UInt8) → R
abbrev T0 := D17 → R
def u0 (k : Nat) : T0 := fun a => runOf (S := cx) E h k Tryz.f36 [.val .str] .bool .ro a
abbrev l2 (c : Bool) (k : Nat) : T2 := lfR c W k [1, 1, 1] [] ⟨[], [], []⟩
abbrev l1 (c : Bool) (k n1 : Nat) : T1 := fun m6 => lfL c W k [1, 1, 0, 0] [] n1 ⟨[(3, vA 6)], [], [(6, ⟨t26, .ro, m6⟩)]⟩
def t2 : T2 := (some (true, ()))
def p2 (k : Nat) : T2 := t2
theorem o2 (k : Nat) : l2 true k = p2 k := lfo (b := l2 false k) lcR (by kernel_rfl) rfl
def t1 (f1 : T1) (f2 : T2) : T1 := fun m6 => (iteB (!(decide (m6 = ([] : List UInt8)))) (bindR (s_runes_reader_next (m6, ())) fun r1 => (iteB (notB r1.1) (some (false, ())) (f1 r1.2.1))) f2)
def p1 (k : Nat) : Nat → T1 := iter fun f => t1 f (p2 k)
theorem o1 (k : Nat) : ∀ n, l1 true k n = p1 k n := oL (u := l1 false k) (by kernel_rfl) (fun n1 => (fx1 fun _ => lcL)) (fun n1 => by kernel_rfl) (fun n1 f h => (congr (congrArg t1 h) (o2 k)))
def t0 (f1 : T1) : T0 := fun a => (f1 a.1)
def p0 (k : Nat) : T0 := t0 (p1 k k)
theorem o0 (k : Nat) : u0 k = p0 k := Eq.trans (by kernel_rfl) (congrArg t0 (o1 k k))
end runes_Whole
def s_runes_Whole (a : D17) : Option D19 := runes_Whole.p0 fuel a
def F_runes_Whole : FSpec cx.toNm := { ps := [.val .str], nres := 1, rt := .bool, rm := .ro, f := s_runes_Whole }
theorem ok_runes_Whole : FnOk Tryz.prog F_runes_Whole 36 := fn_of (F := F_runes_Whole) (hn := runes_Whole.h) (E := runes_Whole.E) cxOk (tysT _ _ _) (fs_cons ok_runes_reader_next fs_nil) follows Tryz.func36 (by kernel_rfl) (fun a r h => ⟨fuel, (congrFun (runes_Whole.o0 fuel) a).trans ((by kernel_rfl : s_runes_Whole a = F_runes_Whole.f a).trans h)⟩)
namespace gram_rightToken
def E : Env cx := { tys := tys, fs := fsOf [(10, F_IsName), (36, F_runes_Whole), (46, F_strings_Contains)] }
abbrev R := Option (D19)
def h : Hint := { vs := [0, 1, 2], ret := ([2], [1]) }
def W : Pr cx (D19) := ⟨E, h, bodyC Tryz.f24, fin (S := cx) E Tryz.f24.results.toList .bool .ro [] []⟩
abbrev T0 := D43 → R
def u0 (k : Nat) : T0 := fun a => runOf (S := cx) E h k Tryz.f24 [.val t3] .bool .ro a
def t0 : T0 := fun a => (bindR (s_IsName (a.1.1, ())) fun r1 => (iteB r1.1 (iteB (!(decide (a.1.2.1 = ([] : List UInt8)))) (bindR (s_runes_Whole (a.1.2.1, ())) fun r2 => (iteB r2.1 (bindR (s_strings_Contains (a.1.2.1, (([10] : List UInt8), ()))) fun r3 => (iteB (notB r3.1) (iteB (decide ((0 : Int) ≤ a.1.2.2.2)) (some ((decide (a.1.2.2.2 ≤ (9 : Int))), ())) (some (false, ()))) (some (false, ())))) (some (false, ())))) (some (false, ()))) (some (false, ()))))
def p0 (k : Nat) : T0 := t0
theorem o0 (k : Nat) : u0 k = p0 k := Eq.trans (by kernel_rfl) rfl
end gram_rightToken
def s_gram_rightToken (a : D43) : Option D19 := gram_rightToken.p0 fuel a
def F_gram_rightToken : FSpec cx.toNm := { ps := [.val t3], nres := 1, rt := .bool, rm := .ro, f := s_gram_rightToken }
theorem ok_gram_rightToken : FnOk Tryz.prog F_gram_rightToken 24 := fn_of (F := F_gram_rightToken) (hn := gram_rightToken.h) (E := gram_rightToken.E) cxOk (tysT _ _ _) (fs_cons ok_IsName (fs_cons ok_runes_Whole (fs_cons ok_strings_Contains fs_nil))) follows Tryz.func24 (by kernel_rfl) (fun a r h => ⟨fuel, (congrFun (gram_rightToken.o0 fuel) a).trans ((by kernel_rfl : s_gram_rightToken a = F_gram_rightToken.f a).trans h)⟩)
namespace gram_Right_1
def E : Env cx := { tys := tys, fs := fsOf [(24, F_gram_rightToken)] }
abbrev R := Option (D19)
def h : Hint := { vs := [0, 1, 2], ret := ([2], [1]) }
def W : Pr cx (D19) := ⟨E, h, bodyC Tryz.f23, fin (S := cx) E Tryz.f23.results.toList .bool .ro [] []⟩
abbrev T0 := D43 → R
def u0 (k : Nat) : T0 := fun a => runOf (S := cx) E h k Tryz.f23 [.val t3] .bool .ro a
def t0 : T0 := fun a => (bindR (s_gram_rightToken (a.1, ())) fun r1 => (some ((notB r1.1), ())))
def p0 (k : Nat) : T0 := t0
theorem o0 (k : Nat) : u0 k = p0 k := Eq.trans (by kernel_rfl) rfl
end gram_Right_1
def s_gram_Right_1 (a : D43) : Option D19 := gram_Right_1.p0 fuel a
def F_gram_Right_1 : FSpec cx.toNm := { ps := [.val t3], nres := 1, rt := .bool, rm := .ro, f := s_gram_Right_1 }
theorem ok_gram_Right_1 : FnOk Tryz.prog F_gram_Right_1 23 := fn_of (F := F_gram_Right_1) (hn := gram_Right_1.h) (E := gram_Right_1.E) cxOk (tysT _ _ _) (fs_cons ok_gram_rightToken fs_nil) follows Tryz.func23 (by kernel_rfl) (fun a r h => ⟨fuel, (congrFun (gram_Right_1.o0 fuel) a).trans ((by kernel_rfl : s_gram_Right_1 a = F_gram_Right_1.f a).trans h)⟩)
namespace slices_IndexFunc
def E : Env cx := { tys := tys, fs := fsOf [(23, F_gram_Right_1)] }
abbrev R := Option (D27)
def h : Hint := { vs := [0, 1, 4, 5, 7, 8], ret := ([4], []), cuts := [(2, ([0, 1, 7, 8], []), ([], [])), (7, ([], []), ([], []))] }
def W : Pr cx (D27) := ⟨E, h, bodyC Tryz.f45, fin (S := cx) E Tryz.f45.results.toList (.int .i64) .ro [] []⟩
abbrev T2 := R
abbrev T1 := D3 → Unit → Int → Int → R
abbrev T0 := D31 → R
def u0 (k : Nat) : T0 := fun a => runOf (S := cx) E h k Tryz.f45 [.val t4, .val t20] (.int .i64) .ro a
abbrev l2 (c : Bool) (k : Nat) : T2 := lfR c W k [1, 1] [] ⟨[], [], []⟩
abbrev l1 (c : Bool) (k n1 : Nat) : T1 := fun x0 x1 x7 x8 => lfL c W k [1, 0, 1, 0] [] n1 ⟨[(0, vR t4 x0), (1, vR t20 x1), (7, vI x7), (8, vI x8)], [], []⟩
def t2 : T2 := (some ((-1 : Int), ()))
def p2 (k : Nat) : T2 := t2
theorem o2 (k : Nat) : l2 true k = p2 k := lfo (b := l2 false k) lcR (by kernel_rfl) rfl
def t1 (f1 : T1) (f2 : T2) : T1 := fun x0 x1 x7 x8 => (iteB (decide (x8 < x7)) (withinR x8 (List.length x0) fun q1 => (bindR (s_gram_Right_1 ((List.getD x0 q1 (([] : List UInt8), (([] : List UInt8), (false, (0 : Int))))), ())) fun r2 => (iteB r2.1 (some (x8, ())) (f1 x0 x1 x7 (w64 (x8 + (1 : Int))))))) f2)
def p1 (k : Nat) : Nat → T1 := iter fun f => t1 f (p2 k)
theorem o1 (k : Nat) : ∀ n, l1 true k n = p1 k n := oL (u := l1 false k) (by kernel_rfl) (fun n1 => (fx4 fun _ _ _ _ => lcL)) (fun n1 => by kernel_rfl) (fun n1 f h => (congr (congrArg t1 h) (o2 k)))
def t0 (f1 : T1) : T0 := fun a => (f1 a.1 a.2.1 ((List.length a.1 : Nat) : Int) (0 : Int))
def p0 (k : Nat) : T0 := t0 (p1 k k)
theorem o0 (k : Nat) : u0 k = p0 k := Eq.trans (by kernel_rfl) (congrArg t0 (o1 k k))
end slices_IndexFunc
def s_slices_IndexFunc (a : D31) : Option D27 := slices_IndexFunc.p0 fuel a
def F_slices_IndexFunc : FSpec cx.toNm := { ps := [.val t4, .val t20], nres := 1, rt := (.int .i64), rm := .ro, f := s_slices_IndexFunc }
theorem ok_slices_IndexFunc : FnOk Tryz.prog F_slices_IndexFunc 45 := fn_of (F := F_slices_IndexFunc) (hn := slices_IndexFunc.h) (E := slices_IndexFunc.E) cxOk (tysT _ _ _) (fs_cons ok_gram_Right_1 fs_nil) follows Tryz.func45 (by kernel_rfl) (fun a r h => ⟨fuel, (congrFun (slices_IndexFunc.o0 fuel) a).trans ((by kernel_rfl : s_slices_IndexFunc a = F_slices_IndexFunc.f a).trans h)⟩)
namespace slices_ContainsFunc
def E : Env cx := { tys := tys, fs := fsOf [(45, F_slices_IndexFunc)] }
abbrev R := Option (D19)
def h : Hint := { vs := [0, 1, 4], ret := ([4], []) }
def W : Pr cx (D19) := ⟨E, h, bodyC Tryz.f22, fin (S := cx) E Tryz.f22.results.toList .bool .ro [] []⟩
abbrev T0 := D31 → R
def u0 (k : Nat) : T0 := fun a => runOf (S := cx) E h k Tryz.f22 [.val t4, .val t20] .bool .ro a
def t0 : T0 := fun a => (bindR (s_slices_IndexFunc (a.1, (a.2.1, ()))) fun r1 => (some ((decide ((0 : Int) ≤ r1.1)), ())))
def p0 (k : Nat) : T0 := t0
theorem o0 (k : Nat) : u0 k = p0 k := Eq.trans (by kernel_rfl) rfl
end slices_ContainsFunc
def s_slices_ContainsFunc (a : D31) : Option D19 := slices_ContainsFunc.p0 fuel a
def F_slices_ContainsFunc : FSpec cx.toNm := { ps := [.val t4, .val t20], nres := 1, rt := .bool, rm := .ro, f := s_slices_ContainsFunc }
theorem ok_slices_ContainsFunc : FnOk Tryz.prog F_slices_ContainsFunc 22 := fn_of (F := F_slices_ContainsFunc) (hn := slices_ContainsFunc.h) (E := slices_ContainsFunc.E) cxOk (tysT _ _ _) (fs_cons ok_slices_IndexFunc fs_nil) follows Tryz.func22 (by kernel_rfl) (fun a r h => ⟨fuel, (congrFun (slices_ContainsFunc.o0 fuel) a).trans ((by kernel_rfl : s_slices_ContainsFunc a = F_slices_ContainsFunc.f a).trans h)⟩)
namespace gram_Right
def E : Env cx := { tys := tys, fs := fsOf [(10, F_IsName), (22, F_slices_ContainsFunc), (25, F_slices_ContainsFuncx), (28, F_slices_ContainsFuncxx)] }
abbrev R := Option (D19)
def h : Hint := { vs := [0, 1, 2], ret := ([2], [1]), cuts := [(2, ([1, 3], [1]), ([1], [1])), (7, ([1], [1]), ([1], [1]))] }
def W : Pr cx (D19) := ⟨E, h, bodyC Tryz.f8, fin (S := cx) E Tryz.f8.results.toList .bool .ro [] []⟩
abbrev T2 := D11 → R
abbrev T1 := Bool → D11 → R
abbrev T0 := D21 → R
def u0 (k : Nat) : T0 := fun a => runOf (S := cx) E h k Tryz.f8 [.val t15] .bool .ro a
abbrev l2 (c : Bool) (k : Nat) : T2 := fun m1 => lfR c W k [1, 1] [] ⟨[(1, vA 1)], [], [(1, ⟨t15, .ro, m1⟩)]⟩
abbrev l1 (c : Bool) (k : Nat) : T1 := fun x3 m1 => lfR c W k [1, 0, 0, 1] [] ⟨[(1, vA 1), (3, vB x3)], [], [(1, ⟨t15, .ro, m1⟩)]⟩
def t2 : T2 := fun m1 => (bindR (s_slices_ContainsFuncxx (m1.2.2.2, ((), ()))) fun r4 => (some ((notB r4.1), ())))
def p2 (k : Nat) : T2 := t2
theorem o2 (k : Nat) : l2 true k = p2 k := lfo (b := l2 false k) (fx1 fun _ => lcR) (by kernel_rfl) rfl
def t1 (f2 : T2) : T1 := fun x3 m1 => (iteB x3 (some (false, ())) (bindR (s_slices_ContainsFunc (m1.1, ((), ()))) fun r2 => (iteB r2.1 (some (false, ())) (bindR (s_slices_ContainsFuncx (m1.2.2.1, ((), ()))) fun r3 => (iteB r3.1 (some (false, ())) (f2 m1))))))
def p1 (k : Nat) : T1 := t1 (p2 k)
theorem o1 (k : Nat) : l1 true k = p1 k := lfo (b := l1 false k) (fx2 fun _ _ => lcR) (by kernel_rfl) (congrArg t1 (o2 k))
def t0 (f1 : T1) : T0 := fun a => (iteB (decide ((32 : Int) < ((List.length a.1.1 : Nat) : Int))) (f1 true a.1) (iteB (decide ((64 : Int) < ((List.length a.1.2.2.1 : Nat) : Int))) (f1 true a.1) (iteB (decide ((16 : Int) < ((List.length a.1.2.2.2 : Nat) : Int))) (f1 true a.1) (iteB (!(decide (a.1.2.1 = ([] : List UInt8)))) (bindR (s_IsName (a.1.2.1, ())) fun r1 => (f1 (notB r1.1) a.1)) (f1 false a.1)))))
def p0 (k : Nat) : T0 := t0 (p1 k)
theorem o0 (k : Nat) : u0 k = p0 k := Eq.trans (by kernel_rfl) (congrArg t0 (o1 k))
end gram_Right
def s_gram_Right (a : D21) : Option D19 := gram_Right.p0 fuel a
def F_gram_Right : FSpec cx.toNm := { ps := [.val t15], nres := 1, rt := .bool, rm := .ro, f := s_gram_Right }
theorem ok_gram_Right : FnOk Tryz.prog F_gram_Right 8 := fn_of (F := F_gram_Right) (hn := gram_Right.h) (E := gram_Right.E) cxOk (tysT _ _ _) (fs_cons ok_IsName (fs_cons ok_slices_ContainsFunc (fs_cons ok_slices_ContainsFuncx (fs_cons ok_slices_ContainsFuncxx fs_nil)))) follows Tryz.func8 (by kernel_rfl) (fun a r h => ⟨fuel, (congrFun (gram_Right.o0 fuel) a).trans ((by kernel_rfl : s_gram_Right a = F_gram_Right.f a).trans h)⟩)
end
end Go.Proofs.YtogipciicekmoaaGreatDoor.Vm.Gz
namespace Go.Proofs.YtogipciicekmoaaGreatDoor.Vm.Gz
open Go Go.Proofs.YtogipciicekmoaaGreatDoor.Vm Go.Proofs Go.RowKit
set_option linter.unusedVariables false
set_option maxRecDepth 100000
noncomputable section
abbrev tRd : Ty := t17
abbrev DRd : Type := D12
abbrev DLine : Type := D16
noncomputable def tabW : List (List UInt8 × Nat) := [([116, 111, 107, 101, 110], 56), ([115, 107, 105, 112], 56), ([99, 108, 97, 115, 115], 57), ([115, 116, 97, 114, 116], 58), ([114, 117, 108, 101], 59), ([108, 105, 115, 116], 60), ([100, 101, 108, 105, 109], 60), ([104, 111, 108, 101], 60)]
noncomputable def findW (s : List UInt8) : List (List UInt8 × Nat) → Nat
  | [] => 0
  | e :: l => match decide (s = e.1) with
    | true => e.2
    | false => findW s l
noncomputable def doW (n : Nat) (a : D18) : Option DLine :=
  iteB (Nat.beq n 56) (s_gram_reading_token a) (iteB (Nat.beq n 57) (s_gram_reading_class a) (iteB (Nat.beq n 58) (s_gram_reading_start a) (iteB (Nat.beq n 59) (s_gram_reading_rule a) (iteB (Nat.beq n 60) (s_gram_reading_note a) (some (30, (a.1, ())))))))
noncomputable def firstW (l : List (List UInt8)) (a : D18) : Option DLine := match l with
  | [] => some (0, (a.1, ()))
  | x :: _ => bindR (s_strings_HasPrefix (x, ([35], ()))) fun h => iteB h.1 (some (0, (a.1, ()))) (doW (findW x tabW) a)
noncomputable def s_line (a : D18) : Option DLine := bindR (s_gram_words (a.2.1, ())) fun q => firstW q.1 a
noncomputable def F_line : FSpec cx.toNm := { ps := [.io t17 m_3, .val .str], nres := 1, rt := (.int .i64), rm := .ro, f := s_line }
namespace Line
noncomputable def E : Env cx := { tys := tys, fs := fsOf [(54, F_gram_words), (55, F_strings_HasPrefix), (56, F_gram_reading_token), (57, F_gram_reading_class), (58, F_gram_reading_start), (59, F_gram_reading_rule), (60, F_gram_reading_note)], wr := true }
noncomputable def h : Hint := { vs := [0, 1, 4, 5, 6, 7], ret := ([4], [1000000]) }
noncomputable def P0 : Code := subC (bodyC Tryz.f38) [0]
noncomputable def P1 : Code := subC (bodyC Tryz.f38) [1, 0]
noncomputable def P2 : Code := subC (bodyC Tryz.f38) [1, 1, 0]
noncomputable def P3 : Code := subC (bodyC Tryz.f38) [1, 1, 1, 0]
noncomputable def P4 : Code := subC (bodyC Tryz.f38) [1, 1, 1, 1]
theorem body_is : Tryz.f38.body = some (.seq P0 (.seq P1 (.seq P2 (.seq P3 P4)))) := by kernel_rfl
abbrev M (rd : DRd) : List (Nat × MV cx.toNm) := [(1000000, ⟨tRd, m_3, rd⟩)]
noncomputable def S1 (rd : DRd) (s : List UInt8) : ST cx := ⟨[(0, vA 1000000), (1, vS s)], [], M rd⟩
noncomputable def S2 (rd : DRd) (s : List UInt8) (l : List (List UInt8)) : ST cx := ⟨[(0, vA 1000000), (1, vS s), (5, vR t5 l)], [], M rd⟩
noncomputable def S3 (rd : DRd) (s : List UInt8) (f : Nat) : ST cx := ⟨[(0, vA 1000000), (1, vS s), (6, .fn f []), (7, vB true)], [], M rd⟩
noncomputable def S4 (rd : DRd) (s : List UInt8) : ST cx := ⟨[(0, vA 1000000), (1, vS s), (7, vB false)], [], M rd⟩
noncomputable def SE (rd : DRd) (n : Int) : ST cx := ⟨[(4, vI n)], [], M rd⟩
theorem r0 (k : Nat) (rd : DRd) (s : List UInt8) : run E h k P0 (stIn F_line.ps (rd, (s, ()))) (kCap ([0, 1], [1000000]) ([4], [1000000])) = some (.normal, S1 rd s) := by kernel_rfl
theorem r1 (k : Nat) (rd : DRd) (s : List UInt8) : run E h k P1 (S1 rd s) (kCap ([0, 1, 5], [1000000]) ([4], [1000000])) = bindR (s_gram_words (s, ())) fun q => some (.normal, S2 rd s q.1) := by kernel_rfl
theorem r2 (k : Nat) (rd : DRd) (s : List UInt8) (l : List (List UInt8)) : run E h k P2 (S2 rd s l) (kCap ([0, 1, 5], [1000000]) ([4], [1000000])) = iteB (decide (((List.length l : Nat) : Int) = 0)) (some (.ret, SE rd 0)) (withinR (0 : Int) (List.length l) fun n => bindR (s_strings_HasPrefix (List.getD l n [], ([35], ()))) fun q => iteB q.1 (some (.ret, SE rd 0)) (some (.normal, S2 rd s l))) := by kernel_rfl
theorem r4n (k : Nat) (rd : DRd) (s : List UInt8) : run E h k P4 (S4 rd s) (kCap ([0, 1, 5], [1000000]) ([4], [1000000])) = some (.ret, SE rd 30) := by kernel_rfl
theorem r436 (k : Nat) (rd : DRd) (s : List UInt8) : run E h k P4 (S3 rd s 56) (kCap ([0, 1, 5], [1000000]) ([4], [1000000])) = bindR (s_gram_reading_token (rd, (s, ()))) fun q => some (.ret, SE q.2.1 q.1) := by kernel_rfl
theorem r437 (k : Nat) (rd : DRd) (s : List UInt8) : run E h k P4 (S3 rd s 57) (kCap ([0, 1, 5], [1000000]) ([4], [1000000])) = bindR (s_gram_reading_class (rd, (s, ()))) fun q => some (.ret, SE q.2.1 q.1) := by kernel_rfl
theorem r438 (k : Nat) (rd : DRd) (s : List UInt8) : run E h k P4 (S3 rd s 58) (kCap ([0, 1, 5], [1000000]) ([4], [1000000])) = bindR (s_gram_reading_start (rd, (s, ()))) fun q => some (.ret, SE q.2.1 q.1) := by kernel_rfl
theorem r439 (k : Nat) (rd : DRd) (s : List UInt8) : run E h k P4 (S3 rd s 59) (kCap ([0, 1, 5], [1000000]) ([4], [1000000])) = bindR (s_gram_reading_rule (rd, (s, ()))) fun q => some (.ret, SE q.2.1 q.1) := by kernel_rfl
theorem r440 (k : Nat) (rd : DRd) (s : List UInt8) : run E h k P4 (S3 rd s 60) (kCap ([0, 1, 5], [1000000]) ([4], [1000000])) = bindR (s_gram_reading_note (rd, (s, ()))) fun q => some (.ret, SE q.2.1 q.1) := by kernel_rfl
theorem code0 : codeOk E h 34 P0 = true := by kernel_rfl
theorem code1 : codeOk E h 34 P1 = true := by kernel_rfl
theorem code2 : codeOk E h 34 P2 = true := by kernel_rfl
theorem code4 : codeOk E h 34 P4 = true := by kernel_rfl
theorem ntm : Tryz.f38.ntmps = 34 := by kernel_rfl
theorem fin_is (rd : DRd) (n : Int) : fin E Tryz.f38.results.toList F_line.rt F_line.rm (ioKs ioBase F_line.ps) (outs F_line.ps) .ret (SE rd n) = some (n, (rd, ())) := by kernel_rfl
noncomputable def fv (n : Nat) : Value := .func (.func n) #[] #[]
noncomputable def entsW (n : Nat) : List (List UInt8 × Nat) → List MapEntry
  | [] => []
  | e :: l => { key := .string ⟨⟨e.1⟩⟩, val := fv e.2, born := n } :: entsW (n + 1) l
noncomputable def mapW (l : List (List UInt8 × Nat)) : Obj := .map (entsW 0 l).toArray l.length
noncomputable def idxW (s : List UInt8) : List (List UInt8 × Nat) → Nat → Option (Nat × Value)
  | [], _ => none
  | e :: l, i => match decide (s = e.1) with
    | true => some (i, fv e.2)
    | false => idxW s l (i + 1)
theorem ba_beq (s t : List UInt8) : ((⟨⟨s⟩⟩ : ByteArray) == ⟨⟨t⟩⟩) = decide (s = t) := by
  have h : ((⟨⟨s⟩⟩ : ByteArray) == ⟨⟨t⟩⟩) = ((⟨s⟩ : Array UInt8) == ⟨t⟩) := rfl
  rw [h, Bool.eq_iff_iff]
  simp
theorem findNow_is (s : List UInt8) : ∀ (l : List (List UInt8 × Nat)) (n i : Nat), Instr.findNow .string (.string ⟨⟨s⟩⟩) (entsW n l) i = some (idxW s l i)
  | [], _, _ => rfl
  | e :: l, n, i => by
    simp only [entsW, Instr.findNow, Instr.sameNow, ba_beq, idxW]
    cases decide (s = e.1) with
    | true => rfl
    | false => exact findNow_is s l (n + 1) (i + 1)
theorem entsW_app : ∀ (l : List (List UInt8 × Nat)) (n : Nat) (e : List UInt8 × Nat), entsW n (l ++ [e]) = entsW n l ++ [{ key := .string ⟨⟨e.1⟩⟩, val := fv e.2, born := n + l.length }]
  | [], n, e => rfl
  | x :: l, n, e => by
    simp only [List.cons_append, entsW, entsW_app l (n + 1) e, List.length_cons]
    congr 3
    congr 1
    omega
theorem t71 : Tryz.prog.underlying 99 = some (.map 9 97) := by kernel_rfl
theorem mapW_heap (w : World) (l : List (List UInt8 × Nat)) : (w.alloc (mapW l)).heap[w.heap.size]? = some (mapW l) := (MapKept.heap_alloc w _).1
theorem mapW_set (w : World) (l l' : List (List UInt8 × Nat)) : { w.alloc (mapW l) with heap := (w.alloc (mapW l)).heap.setIfInBounds w.heap.size (mapW l') } = w.alloc (mapW l') := by
  simp only [World.alloc]
  congr 1
  apply Array.ext'
  simp [Array.setIfInBounds, Array.toList_push]
theorem run_findW (s : List UInt8) (l : List (List UInt8 × Nat)) (w : World) : (Instr.findKey 9 (.string ⟨⟨s⟩⟩) (entsW 0 l)).run Tryz.prog w = .ok (idxW s l 0) w := by
  simp only [Instr.findKey, Sem.run_bind, run_underlying Tryz.underlying9, Result.andThen_ok, findNow_is]
  rfl
theorem run_chk (s : List UInt8) (em : Bool) (w : World) : (Instr.checkKey em 10000 9 (.string ⟨⟨s⟩⟩)).run Tryz.prog w = .ok () w := by
  unfold Instr.checkKey
  simp only [Sem.run_bind, run_underlying Tryz.underlying9, Result.andThen_ok]
  rfl
theorem run_ins (w : World) (l : List (List UInt8 × Nat)) (k : List UInt8) (n : Nat) (hk : idxW k l 0 = none) :
    (Instr.mapUpdate 99 (.map (some w.heap.size)) (.string ⟨⟨k⟩⟩) (fv n)).run Tryz.prog (w.alloc (mapW l)) = .ok () (w.alloc (mapW (l ++ [(k, n)]))) := by
  have hh : (w.alloc (mapW l)).heap[w.heap.size]? = some (.map (entsW 0 l).toArray l.length) := mapW_heap w l
  have hst := mapW_set w l (l ++ [(k, n)])
  have hset := fun o => MapKept.run_setObj_map (P := Tryz.prog) o hh
  generalize w.alloc (mapW l) = w1 at *
  simp only [Instr.mapUpdate, Sem.run_bind, run_underlying t71, Result.andThen_ok, MapKept.run_getObj_map hh, run_chk, run_findW]
  rw [hk]
  simp only
  rw [hset]
  have : (Obj.map ((entsW 0 l).toArray.push { key := .string ⟨⟨k⟩⟩, val := fv n, born := l.length }) (l.length + 1)) = mapW (l ++ [(k, n)]) := by
    unfold mapW
    rw [entsW_app]
    simp
  rw [this]
  exact congrArg _ hst
noncomputable def lookW (o : Option (Nat × Value)) : Value := match o with
  | some e => .tuple #[e.2, .bool true]
  | none => .tuple #[.nilFunc, .bool false]
theorem run_look (w : World) (l : List (List UInt8 × Nat)) (s : List UInt8) :
    (Instr.lookup 99 (.map (some w.heap.size)) (.string ⟨⟨s⟩⟩) true).run Tryz.prog (w.alloc (mapW l)) = .ok (lookW (idxW s l 0)) (w.alloc (mapW l)) := by
  have hh : (w.alloc (mapW l)).heap[w.heap.size]? = some (.map (entsW 0 l).toArray l.length) := mapW_heap w l
  have hz := Tryz.zeroValue97
  simp only [Instr.lookup, Sem.run_bind, run_underlying t71, Result.andThen_ok, MapKept.run_getObj_map hh, Sem.run_pure, run_chk, run_findW]
  cases idxW s l 0 with
  | none => simp only [Sem.run_bind, hz, Result.andThen_ok]; rfl
  | some e => rfl
def ops3 : Array Oper := match P3 with
  | .region _ o _ => o
  | _ => #[]
def o3 (i : Nat) : Oper := (ops3[i]?).getD { dst := none, op := .panic (.tmp 0), type := 0, pos := "", after := #[], guard := none }
theorem P3_is : P3 = .region 4 ops3 false := by kernel_rfl
theorem ops3_size : ops3.size = 19 := by kernel_rfl
theorem ev_put {a : Act} {d i : Nat} {v : Value} (hd : d < a.tmps.size) : (a.put (some d) v).tmps.getD i undef = if d = i then v else a.tmps.getD i undef := by
  simp only [Act.put]
  by_cases h : d = i
  · subst h; simp [Array.getD, hd]
  · rw [if_neg h]; exact getD_set_ne' h
theorem sz_put {a : Act} {d : Nat} {v : Value} : (a.put (some d) v).tmps.size = a.tmps.size := by simp [Act.put]
section
variable {Q : Exit → Act → World → Prop} {a : Act} {w w' : World} {i : Nat} {rest : List Nat} {v : Value}
theorem stepV (d : Nat) (ho : ops3[i]? = some (o3 i)) (hg : (o3 i).guard = none) (hd : (o3 i).dst = some d) (hx : (execOp a.eval (o3 i)).run Tryz.prog w = .ok (.value v) w') (hn : wpOps Tryz.prog ops3 Q rest (a.put (some d) v) w') : wpOps Tryz.prog ops3 Q (i :: rest) a w := by
  simp only [wpOps, ho]
  rw [if_pos (by simp [Region.wanted, hg])]
  refine .inl ?_
  unfold Oper.wp
  rw [hx, Oper.upon_value, hd]
  exact hn
theorem stepS (ho : ops3[i]? = some (o3 i)) (hg : (o3 i).guard = none) (hd : (o3 i).dst = none) (hx : (execOp a.eval (o3 i)).run Tryz.prog w = .ok .skip w') (hn : wpOps Tryz.prog ops3 Q rest a w') : wpOps Tryz.prog ops3 Q (i :: rest) a w := by
  simp only [wpOps, ho]
  rw [if_pos (by simp [Region.wanted, hg])]
  refine .inl ?_
  unfold Oper.wp
  rw [hx, Oper.upon_skip, hd]
  exact hn
theorem ins_step (l : List (List UInt8 × Nat)) (k : List UInt8) (n : Nat) (ho : ops3[i]? = some (o3 i)) (hg : (o3 i).guard = none) (hd : (o3 i).dst = none) (hop : (o3 i).op = .insert 99 (.tmp 20) (.const (.string ⟨⟨k⟩⟩)) (.func n)) (hk : idxW k l 0 = none)
    (h20 : a.tmps.getD 20 undef = .map (some w.heap.size)) (hn : wpOps Tryz.prog ops3 Q rest a (w.alloc (mapW (l ++ [(k, n)])))) : wpOps Tryz.prog ops3 Q (i :: rest) a (w.alloc (mapW l)) := by
  refine stepS ho hg hd ?_ hn
  have e20 : a.eval (.tmp 20) = .map (some w.heap.size) := h20
  have ek : a.eval (.const (.string ⟨⟨k⟩⟩)) = .string ⟨⟨k⟩⟩ := rfl
  have ef : a.eval (.func n) = fv n := rfl
  have h := run_ins w l k n hk
  simp only [execOp, hop, e20, ek, ef]
  simp only [Sem.run_bind, h, Result.andThen_ok]
  rfl
theorem p3 (s0 : List UInt8) (b off len c : Nat) (hsz : a.tmps.size = 34) (h5 : a.tmps.getD 5 undef = .slice (some ⟨b, off, none⟩) len c) (hlen : 0 < len) (hcell : cellsAt w b off 1 = some [.string ⟨⟨s0⟩⟩])
    (hQ : ∀ a', a'.tmps.size = 34 → a'.defers = a.defers → a'.tmps.getD 0 undef = a.tmps.getD 0 undef → a'.tmps.getD 1 undef = a.tmps.getD 1 undef →
      lookW (idxW s0 tabW 0) = .tuple #[a'.tmps.getD 6 undef, a'.tmps.getD 7 undef] → Q .normal a' (w.alloc (mapW tabW))) : P3.wp Tryz.prog Q a w := by
  rw [P3_is]
  apply wp_region
  rw [ops3_size, show List.range 19 = [0, 1, 2, 3, 4, 5, 6, 7, 8, 9, 10, 11, 12, 13, 14, 15, 16, 17, 18] by rfl]
  have m0 : (execOp a.eval (o3 0)).run Tryz.prog w = .ok (.value (.map (some w.heap.size))) (w.alloc (mapW [])) := by
    have : (o3 0).op = .makeMap 99 none := by kernel_rfl
    simp only [execOp, this]
    rfl
  refine stepV 20 (by kernel_rfl) (by kernel_rfl) (by kernel_rfl) m0 ?_
  have d0 : (a.put (some 20) (.map (some w.heap.size))).defers = a.defers := rfl
  have z0 : (a.put (some 20) (.map (some w.heap.size))).tmps.size = 34 := sz_put.trans hsz
  have h20 : (a.put (some 20) (.map (some w.heap.size))).tmps.getD 20 undef = .map (some w.heap.size) := by rw [ev_put (by omega), if_pos rfl]
  have h5' : (a.put (some 20) (.map (some w.heap.size))).tmps.getD 5 undef = .slice (some ⟨b, off, none⟩) len c := by rw [ev_put (by omega), if_neg (by decide)]; exact h5
  have h0' : (a.put (some 20) (.map (some w.heap.size))).tmps.getD 0 undef = a.tmps.getD 0 undef := by rw [ev_put (by omega), if_neg (by decide)]
  have h1' : (a.put (some 20) (.map (some w.heap.size))).tmps.getD 1 undef = a.tmps.getD 1 undef := by rw [ev_put (by omega), if_neg (by decide)]
  generalize a.put (some 20) (.map (some w.heap.size)) = a1 at *
  refine ins_step (i := 1) [] [116, 111, 107, 101, 110] 56 (by kernel_rfl) (by kernel_rfl) (by kernel_rfl) (by kernel_rfl) (by kernel_rfl) h20 ?_
  refine ins_step (i := 2) [([116, 111, 107, 101, 110], 56)] [115, 107, 105, 112] 56 (by kernel_rfl) (by kernel_rfl) (by kernel_rfl) (by kernel_rfl) (by kernel_rfl) h20 ?_
  refine ins_step (i := 3) [([116, 111, 107, 101, 110], 56), ([115, 107, 105, 112], 56)] [99, 108, 97, 115, 115] 57 (by kernel_rfl) (by kernel_rfl) (by kernel_rfl) (by kernel_rfl) (by kernel_rfl) h20 ?_
  refine ins_step (i := 4) [([116, 111, 107, 101, 110], 56), ([115, 107, 105, 112], 56), ([99, 108, 97, 115, 115], 57)] [115, 116, 97, 114, 116] 58 (by kernel_rfl) (by kernel_rfl) (by kernel_rfl) (by kernel_rfl) (by kernel_rfl) h20 ?_
  refine ins_step (i := 5) [([116, 111, 107, 101, 110], 56), ([115, 107, 105, 112], 56), ([99, 108, 97, 115, 115], 57), ([115, 116, 97, 114, 116], 58)] [114, 117, 108, 101] 59 (by kernel_rfl) (by kernel_rfl) (by kernel_rfl) (by kernel_rfl) (by kernel_rfl) h20 ?_
  refine ins_step (i := 6) [([116, 111, 107, 101, 110], 56), ([115, 107, 105, 112], 56), ([99, 108, 97, 115, 115], 57), ([115, 116, 97, 114, 116], 58), ([114, 117, 108, 101], 59)] [108, 105, 115, 116] 60 (by kernel_rfl) (by kernel_rfl) (by kernel_rfl) (by kernel_rfl) (by kernel_rfl) h20 ?_
  refine ins_step (i := 7) [([116, 111, 107, 101, 110], 56), ([115, 107, 105, 112], 56), ([99, 108, 97, 115, 115], 57), ([115, 116, 97, 114, 116], 58), ([114, 117, 108, 101], 59), ([108, 105, 115, 116], 60)] [100, 101, 108, 105, 109] 60 (by kernel_rfl) (by kernel_rfl) (by kernel_rfl) (by kernel_rfl) (by kernel_rfl) h20 ?_
  refine ins_step (i := 8) [([116, 111, 107, 101, 110], 56), ([115, 107, 105, 112], 56), ([99, 108, 97, 115, 115], 57), ([115, 116, 97, 114, 116], 58), ([114, 117, 108, 101], 59), ([108, 105, 115, 116], 60), ([100, 101, 108, 105, 109], 60)] [104, 111, 108, 101] 60 (by kernel_rfl) (by kernel_rfl) (by kernel_rfl) (by kernel_rfl) (by kernel_rfl) h20 ?_
  show wpOps Tryz.prog ops3 Q [9, 10, 11, 12, 13, 14, 15, 16, 17, 18] a1 (w.alloc (mapW tabW))
  have hc : cellsAt (w.alloc (mapW tabW)) b off 1 = some [.string ⟨⟨s0⟩⟩] := by
    rw [cellsAt_same ((MapKept.heap_alloc w (mapW tabW)).2 b (cellsAt_lt hcell))]; exact hcell
  have hl := run_look w tabW s0
  generalize w.alloc (mapW tabW) = w1 at *
  have e9 : (execOp a1.eval (o3 9)).run Tryz.prog w1 = .ok (.value (.map (some w.heap.size))) w1 := by
    have : (o3 9).op = .move (.tmp 20) := by kernel_rfl
    have e : a1.eval (.tmp 20) = .map (some w.heap.size) := h20
    simp only [execOp, this, e]
    rfl
  refine stepV 21 (by kernel_rfl) (by kernel_rfl) (by kernel_rfl) e9 ?_
  have e10 : (execOp (a1.put (some 21) (.map (some w.heap.size))).eval (o3 10)).run Tryz.prog w1 = .ok (.value (.slice (some ⟨b, off, none⟩) len c)) w1 := by
    have : (o3 10).op = .move (.tmp 5) := by kernel_rfl
    have e : (a1.put (some 21) (.map (some w.heap.size))).eval (.tmp 5) = .slice (some ⟨b, off, none⟩) len c := by
      show (a1.put (some 21) (.map (some w.heap.size))).tmps.getD 5 undef = _
      rw [ev_put (by omega), if_neg (by decide)]; exact h5'
    simp only [execOp, this, e]
    rfl
  refine stepV 22 (by kernel_rfl) (by kernel_rfl) (by kernel_rfl) e10 ?_
  generalize ha2 : (a1.put (some 21) (.map (some w.heap.size))).put (some 22) (.slice (some ⟨b, off, none⟩) len c) = a2
  have z2 : a2.tmps.size = 34 := by rw [← ha2, sz_put, sz_put, z0]
  have g2 : a2.defers = a.defers := by rw [← ha2]; exact d0
  have q0 : a2.tmps.getD 0 undef = a.tmps.getD 0 undef := by rw [← ha2, ev_put (by rw [sz_put]; omega), if_neg (by decide), ev_put (by omega), if_neg (by decide)]; exact h0'
  have q1 : a2.tmps.getD 1 undef = a.tmps.getD 1 undef := by rw [← ha2, ev_put (by rw [sz_put]; omega), if_neg (by decide), ev_put (by omega), if_neg (by decide)]; exact h1'
  have q21 : a2.tmps.getD 21 undef = .map (some w.heap.size) := by rw [← ha2, ev_put (by rw [sz_put]; omega), if_neg (by decide), ev_put (by omega), if_pos rfl]
  have q22 : a2.tmps.getD 22 undef = .slice (some ⟨b, off, none⟩) len c := by rw [← ha2, ev_put (by rw [sz_put]; omega), if_pos rfl]
  clear ha2 e9 e10
  have e11 : (execOp a2.eval (o3 11)).run Tryz.prog w1 = .ok (.value (.pointer (some ⟨b, off, none⟩))) w1 := by
    have : (o3 11).op = .indexAddr 40 (.tmp 22) (.const (.int .i64 0)) := by kernel_rfl
    have e : a2.eval (.tmp 22) = .slice (some ⟨b, off, none⟩) len c := q22
    have e' : a2.eval (.const (.int .i64 0)) = .int .i64 0 := rfl
    simp only [execOp, this, e, e']
    refine run_v ?_
    have := run_indexAddr (P := Tryz.prog) (E := E) cxOk (tysT _ _ _) (e := 40) (ee := 9) (t := .str) (by kernel_rfl) (b := b) (off := off) (n := len) (c := c) (k := .i64) (j := 0) (by omega) (by omega) w1
    simpa using this
  refine stepV 23 (by kernel_rfl) (by kernel_rfl) (by kernel_rfl) e11 ?_
  have e12 : (execOp (a2.put (some 23) (.pointer (some ⟨b, off, none⟩))).eval (o3 12)).run Tryz.prog w1 = .ok (.value (.string ⟨⟨s0⟩⟩)) w1 := by
    have : (o3 12).op = .load 9 (.tmp 23) := by kernel_rfl
    have e : (a2.put (some 23) (.pointer (some ⟨b, off, none⟩))).eval (.tmp 23) = .pointer (some ⟨b, off, none⟩) := by
      show (a2.put (some 23) _).tmps.getD 23 undef = _
      rw [ev_put (by omega), if_pos rfl]
    simp only [execOp, this, e]
    refine run_v ?_
    exact run_loadAt (tysT [] false 0 9 .str (by kernel_rfl)) hc
  refine stepV 24 (by kernel_rfl) (by kernel_rfl) (by kernel_rfl) e12 ?_
  generalize ha3 : (a2.put (some 23) (.pointer (some ⟨b, off, none⟩))).put (some 24) (.string ⟨⟨s0⟩⟩) = a3
  have z3 : a3.tmps.size = 34 := by rw [← ha3, sz_put, sz_put, z2]
  have g3 : a3.defers = a.defers := by rw [← ha3]; exact g2
  have r0 : a3.tmps.getD 0 undef = a.tmps.getD 0 undef := by rw [← ha3, ev_put (by rw [sz_put]; omega), if_neg (by decide), ev_put (by omega), if_neg (by decide)]; exact q0
  have r1 : a3.tmps.getD 1 undef = a.tmps.getD 1 undef := by rw [← ha3, ev_put (by rw [sz_put]; omega), if_neg (by decide), ev_put (by omega), if_neg (by decide)]; exact q1
  have r21 : a3.tmps.getD 21 undef = .map (some w.heap.size) := by rw [← ha3, ev_put (by rw [sz_put]; omega), if_neg (by decide), ev_put (by omega), if_neg (by decide)]; exact q21
  have r24 : a3.tmps.getD 24 undef = .string ⟨⟨s0⟩⟩ := by rw [← ha3, ev_put (by rw [sz_put]; omega), if_pos rfl]
  clear ha3 e11 e12 q0 q1 q21 q22
  have e13 : (execOp a3.eval (o3 13)).run Tryz.prog w1 = .ok (.value (lookW (idxW s0 tabW 0))) w1 := by
    have : (o3 13).op = .lookup 99 (.tmp 21) (.tmp 24) true := by kernel_rfl
    have e : a3.eval (.tmp 21) = .map (some w.heap.size) := r21
    have e' : a3.eval (.tmp 24) = .string ⟨⟨s0⟩⟩ := r24
    simp only [execOp, this, e, e']
    exact run_v hl
  refine stepV 25 (by kernel_rfl) (by kernel_rfl) (by kernel_rfl) e13 ?_
  obtain ⟨v6, v7, hv, hv6, hv7⟩ : ∃ v6 v7, lookW (idxW s0 tabW 0) = .tuple #[v6, v7] ∧ (v6 = .nilFunc ∨ ∃ n, v6 = fv n) ∧ ∃ x, v7 = .bool x := by
    have hi : ∀ (l : List (List UInt8 × Nat)) (i : Nat), idxW s0 l i = none ∨ ∃ j n, idxW s0 l i = some (j, fv n) := by
      intro l
      induction l with
      | nil => exact fun i => .inl rfl
      | cons e l ih =>
        intro i
        unfold idxW
        cases decide (s0 = e.1) with
        | true => exact .inr ⟨_, _, rfl⟩
        | false => exact ih (i + 1)
    rcases hi tabW 0 with h | ⟨j, n, h⟩
    · rw [h]; exact ⟨_, _, rfl, .inl rfl, _, rfl⟩
    · rw [h]; exact ⟨_, _, rfl, .inr ⟨n, rfl⟩, _, rfl⟩
  rw [hv] at hQ ⊢
  clear e13 hl
  have e14 : (execOp (a3.put (some 25) (.tuple #[v6, v7])).eval (o3 14)).run Tryz.prog w1 = .ok (.value (.tuple #[v6, v7])) w1 := by
    have : (o3 14).op = .move (.tmp 25) := by kernel_rfl
    have e : (a3.put (some 25) (.tuple #[v6, v7])).eval (.tmp 25) = .tuple #[v6, v7] := by
      show (a3.put (some 25) _).tmps.getD 25 undef = _
      rw [ev_put (by omega), if_pos rfl]
    simp only [execOp, this, e]
    rfl
  refine stepV 19 (by kernel_rfl) (by kernel_rfl) (by kernel_rfl) e14 ?_
  generalize ha4 : (a3.put (some 25) (.tuple #[v6, v7])).put (some 19) (.tuple #[v6, v7]) = a4
  have z4 : a4.tmps.size = 34 := by rw [← ha4, sz_put, sz_put, z3]
  have g4 : a4.defers = a.defers := by rw [← ha4]; exact g3
  have t0 : a4.tmps.getD 0 undef = a.tmps.getD 0 undef := by rw [← ha4, ev_put (by rw [sz_put]; omega), if_neg (by decide), ev_put (by omega), if_neg (by decide)]; exact r0
  have t1 : a4.tmps.getD 1 undef = a.tmps.getD 1 undef := by rw [← ha4, ev_put (by rw [sz_put]; omega), if_neg (by decide), ev_put (by omega), if_neg (by decide)]; exact r1
  have t19 : a4.tmps.getD 19 undef = .tuple #[v6, v7] := by rw [← ha4, ev_put (by rw [sz_put]; omega), if_pos rfl]
  clear ha4 e14 r0 r1 r21 r24
  have e15 : (execOp a4.eval (o3 15)).run Tryz.prog w1 = .ok (.value v6) w1 := by
    have : (o3 15).op = .extract (.tmp 19) 0 := by kernel_rfl
    have e : a4.eval (.tmp 19) = .tuple #[v6, v7] := t19
    simp only [execOp, this, e]
    exact run_v (by rfl)
  refine stepV 26 (by kernel_rfl) (by kernel_rfl) (by kernel_rfl) e15 ?_
  have e16 : (execOp (a4.put (some 26) v6).eval (o3 16)).run Tryz.prog w1 = .ok (.value v7) w1 := by
    have : (o3 16).op = .extract (.tmp 19) 1 := by kernel_rfl
    have e : (a4.put (some 26) v6).eval (.tmp 19) = .tuple #[v6, v7] := by
      show (a4.put (some 26) v6).tmps.getD 19 undef = _
      rw [ev_put (by omega), if_neg (by decide)]; exact t19
    simp only [execOp, this, e]
    exact run_v (by rfl)
  refine stepV 27 (by kernel_rfl) (by kernel_rfl) (by kernel_rfl) e16 ?_
  have e17 : (execOp ((a4.put (some 26) v6).put (some 27) v7).eval (o3 17)).run Tryz.prog w1 = .ok (.value v6) w1 := by
    have : (o3 17).op = .assign (.tmp 26) := by kernel_rfl
    have e : ((a4.put (some 26) v6).put (some 27) v7).eval (.tmp 26) = v6 := by
      show ((a4.put (some 26) v6).put (some 27) v7).tmps.getD 26 undef = _
      rw [ev_put (by rw [sz_put]; omega), if_neg (by decide), ev_put (by omega), if_pos rfl]
    simp only [execOp, this, e]
    rcases hv6 with rfl | ⟨n, rfl⟩ <;> rfl
  refine stepV 6 (by kernel_rfl) (by kernel_rfl) (by kernel_rfl) e17 ?_
  have e18 : (execOp (((a4.put (some 26) v6).put (some 27) v7).put (some 6) v6).eval (o3 18)).run Tryz.prog w1 = .ok (.value v7) w1 := by
    have : (o3 18).op = .assign (.tmp 27) := by kernel_rfl
    have e : (((a4.put (some 26) v6).put (some 27) v7).put (some 6) v6).eval (.tmp 27) = v7 := by
      show (((a4.put (some 26) v6).put (some 27) v7).put (some 6) v6).tmps.getD 27 undef = _
      rw [ev_put (by rw [sz_put, sz_put]; omega), if_neg (by decide), ev_put (by rw [sz_put]; omega), if_pos rfl]
    simp only [execOp, this, e]
    obtain ⟨x, rfl⟩ := hv7
    rfl
  refine stepV 7 (by kernel_rfl) (by kernel_rfl) (by kernel_rfl) e18 ?_
  refine hQ _ (by rw [sz_put, sz_put, sz_put, sz_put, z4]) g4 ?_ ?_ ?_
  · rw [ev_put (by rw [sz_put, sz_put, sz_put]; omega), if_neg (by decide), ev_put (by rw [sz_put, sz_put]; omega), if_neg (by decide), ev_put (by rw [sz_put]; omega), if_neg (by decide), ev_put (by omega), if_neg (by decide)]; exact t0
  · rw [ev_put (by rw [sz_put, sz_put, sz_put]; omega), if_neg (by decide), ev_put (by rw [sz_put, sz_put]; omega), if_neg (by decide), ev_put (by rw [sz_put]; omega), if_neg (by decide), ev_put (by omega), if_neg (by decide)]; exact t1
  · rw [ev_put (by rw [sz_put, sz_put, sz_put]; omega), if_neg (by decide), ev_put (by rw [sz_put, sz_put]; omega), if_pos rfl, ev_put (by rw [sz_put, sz_put, sz_put]; omega), if_pos rfl]
end
theorem idx_find (s : List UInt8) : ∀ (l : List (List UInt8 × Nat)) (i : Nat), (idxW s l i = none ∧ findW s l = 0) ∨ ∃ j, idxW s l i = some (j, fv (findW s l)) ∧ findW s l ∈ l.map (·.2)
  | [], _ => .inl ⟨rfl, rfl⟩
  | e :: l, i => by
    unfold idxW findW
    cases decide (s = e.1) with
    | true => exact .inr ⟨i, rfl, by simp⟩
    | false =>
      rcases idx_find s l (i + 1) with ⟨h1, h2⟩ | ⟨j, h1, h2⟩
      · exact .inl ⟨h1, h2⟩
      · exact .inr ⟨j, h1, by simp only [List.map_cons, List.mem_cons]; exact .inr h2⟩
theorem look_none {v6 v7 : Value} (h : lookW none = .tuple #[v6, v7]) : v7 = .bool false := by
  unfold lookW at h
  simp at h
  exact h.2.symm
theorem look_some {v6 v7 : Value} {j : Nat} {v : Value} (h : lookW (some (j, v)) = .tuple #[v6, v7]) : v6 = v ∧ v7 = .bool true := by
  unfold lookW at h
  simp at h
  exact ⟨h.1.symm, h.2.symm⟩
theorem find_five (n : Nat) (h : n ∈ tabW.map (·.2)) : n = 56 ∨ n = 57 ∨ n = 58 ∨ n = 59 ∨ n = 60 := by
  simp only [tabW, List.map_cons, List.map_nil, List.mem_cons, List.not_mem_nil, or_false] at h
  omega
theorem hfsL : ∀ f F, E.fs f = some F → FnOk Tryz.prog F f :=
  fs_cons ok_gram_words (fs_cons ok_strings_HasPrefix (fs_cons ok_gram_reading_token (fs_cons ok_gram_reading_class (fs_cons ok_gram_reading_start (fs_cons ok_gram_reading_rule (fs_cons ok_gram_reading_note fs_nil))))))
theorem look_five {α : Type} (i a0 a1 a2 a3 : Nat) (x0 x1 x2 x3 : α) (h0 : i ≠ a0) (h1 : i ≠ a1) (h2 : i ≠ a2) (h3 : i ≠ a3) : List.lookup i [(a0, x0), (a1, x1), (a2, x2), (a3, x3)] = none := by
  simp only [List.lookup_cons, beq_eq_false_iff_ne.2 h0, beq_eq_false_iff_ne.2 h1, beq_eq_false_iff_ne.2 h2, beq_eq_false_iff_ne.2 h3, List.lookup_nil]
theorem rel3 {g : Gl cx} {own : Nat → Option Own} {a a' : Act} {w : World} {rd : DRd} {s : List UInt8} {l : List (List UInt8)} (n : Nat) (h : Rel g own (S2 rd s l) a w) (hd : a'.defers = a.defers) (h0 : a'.tmps.getD 0 undef = a.tmps.getD 0 undef) (h1 : a'.tmps.getD 1 undef = a.tmps.getD 1 undef)
    (h6 : a'.tmps.getD 6 undef = fv n) (h7 : a'.tmps.getD 7 undef = .bool true) : Rel g own (S3 rd s n) a' w := by
  refine ⟨h.os, h.tape, h.output, h.size, h.block, h.fresh, fun i => ?_, h.mems, hd.trans h.defs, h.pins⟩
  by_cases i0 : i = 0
  · subst i0
    have := h.vals 0
    rw [← h0] at this
    exact this
  by_cases i1 : i = 1
  · subst i1
    have := h.vals 1
    rw [← h1] at this
    exact this
  by_cases i6 : i = 6
  · subst i6
    exact ⟨[], h6, trivial⟩
  by_cases i7 : i = 7
  · subst i7
    exact ⟨[.bool true], h7.symm ▸ rfl, OW_ro.2 (Cx.R_bool.2 rfl)⟩
  have : (S3 rd s n).look i = .dead := by
    unfold S3 St.look
    rw [look_five i 0 1 6 7 _ _ _ _ i0 i1 i6 i7]
    rfl
  rw [this]
  trivial
theorem rel4 {g : Gl cx} {own : Nat → Option Own} {a a' : Act} {w : World} {rd : DRd} {s : List UInt8} {l : List (List UInt8)} (h : Rel g own (S2 rd s l) a w) (hd : a'.defers = a.defers) (h0 : a'.tmps.getD 0 undef = a.tmps.getD 0 undef) (h1 : a'.tmps.getD 1 undef = a.tmps.getD 1 undef)
    (h7 : a'.tmps.getD 7 undef = .bool false) : Rel g own (S4 rd s) a' w := by
  refine ⟨h.os, h.tape, h.output, h.size, h.block, h.fresh, fun i => ?_, h.mems, hd.trans h.defs, h.pins⟩
  by_cases i0 : i = 0
  · subst i0
    have := h.vals 0
    rw [← h0] at this
    exact this
  by_cases i1 : i = 1
  · subst i1
    have := h.vals 1
    rw [← h1] at this
    exact this
  by_cases i7 : i = 7
  · subst i7
    exact ⟨[.bool false], h7.symm ▸ rfl, OW_ro.2 (Cx.R_bool.2 rfl)⟩
  have : (S4 rd s).look i = .dead := by
    unfold S4 St.look
    have : List.lookup i [(0, (vA 1000000 : AV cx)), (1, vS s), (7, vB false)] = none := by simp only [List.lookup_cons, beq_eq_false_iff_ne.2 i0, beq_eq_false_iff_ne.2 i1, beq_eq_false_iff_ne.2 i7, List.lookup_nil]
    rw [this]
    rfl
  rw [this]
  trivial
theorem words_at {g : Gl cx} {own : Nat → Option Own} {a : Act} {w : World} {rd : DRd} {s x : List UInt8} {l : List (List UInt8)} (h : Rel g own (S2 rd s (x :: l)) a w) :
    ∃ b off len c, a.tmps.getD 5 undef = .slice (some ⟨b, off, none⟩) len c ∧ 0 < len ∧ cellsAt w b off 1 = some [.string ⟨⟨x⟩⟩] := by
  have hv : ∃ cs, VS t5 (a.tmps.getD 5 undef) cs ∧ cx.OW w own (g.Z own w) (.slot 5) t5 .ro [] cs (x :: l) := h.vals 5
  obtain ⟨cs, h1, h2⟩ := hv
  obtain ⟨ad, c, e1, e2, e3⟩ := Cx.R_slice.1 (OW_ro.1 h2)
  have h1 : cs = [a.tmps.getD 5 undef] := h1
  rw [h1] at e1
  obtain ⟨b, off, cs', f1, f2, f3, f4⟩ := e3 0 x rfl
  subst f1
  have f4 := Cx.R_str.1 f4
  subst f4
  refine ⟨b, off, _, c, (List.cons.inj e1).1, Nat.succ_pos _, ?_⟩
  have hs : cx.size .str = 1 := rfl
  rw [hs] at f3
  simpa using f3
end Line
open Line in
set_option maxHeartbeats 400000 in
theorem ok_line : FnOk Tryz.prog F_line 38 := by
  refine fn_okW (E := E) cxOk (tysT _ _ _) hfsL follows Tryz.func38 body_is (by kernel_rfl) rfl (by rw [ntm]; decide) (by rw [ntm]; decide) rfl rfl rfl ?_
  intro x r hx g own a w hP hE hpin hrel hsz
  obtain ⟨P, E', w0, Z0, Mio, pin, zone, glob, defs⟩ := g
  simp only at hP hE
  subst hP
  subst hE
  obtain ⟨rd, s, ⟨⟩⟩ := x
  rw [ntm] at hsz hpin ⊢
  have hx : s_line (rd, (s, ())) = some r := hx
  have fin : ∀ (n : Int) (rd' : DRd) own a w, Rel ⟨Tryz.prog, E, w0, Z0, Mio, pin, zone, glob, defs⟩ own (SE rd' n) a w → a.tmps.size = 34 → r = (n, (rd', ())) → QV ⟨Tryz.prog, E, w0, Z0, Mio, pin, zone, glob, defs⟩ 34 (fin E Tryz.f38.results.toList F_line.rt F_line.rm (ioKs ioBase F_line.ps) (outs F_line.ps)) r .ret a w := fun n rd' own a w h hsz hr => ⟨own, _, h, (fin_is rd' n).trans (by rw [hr]; rfl), hsz⟩
  refine wp_seq (wp_piece cxOk (tysT _ _ _) hfsL follows hpin code0 hrel hsz (r0 0 rd s) fun own a w h hsz => ?_)
  unfold s_line at hx
  simp only at hx
  cases e1 : s_gram_words (s, ()) with
  | none => rw [e1] at hx; cases hx
  | some q =>
    rw [e1] at hx
    simp only [bindR] at hx
    obtain ⟨l, ⟨⟩⟩ := q
    have k1 := r1 0 rd s
    rw [e1] at k1
    simp only [bindR] at k1
    refine wp_seq (wp_piece cxOk (tysT _ _ _) hfsL follows hpin code1 h hsz k1 fun own a w h hsz => ?_)
    have k2 := r2 0 rd s l
    refine wp_seq ?_
    cases l with
    | nil =>
      refine wp_piece cxOk (tysT _ _ _) hfsL follows hpin code2 h hsz (e' := .ret) (st' := SE rd 0) (k2.trans rfl) fun own a w h hsz => ?_
      exact fin 0 rd own a w h hsz (Option.some.inj hx).symm
    | cons y l =>
      have hw : (withinR (0 : Int) (List.length (y :: l)) fun n => bindR (s_strings_HasPrefix (List.getD (y :: l) n [], ([35], ()))) fun q => iteB q.1 (some (Exit.ret, SE rd 0)) (some (.normal, S2 rd s (y :: l)))) = bindR (s_strings_HasPrefix (y, ([35], ()))) fun q => iteB q.1 (some (.ret, SE rd 0)) (some (.normal, S2 rd s (y :: l))) := by
        have h1 : decide ((0 : Int) < ((List.length (y :: l) : Nat) : Int)) = true := decide_eq_true (by simp only [List.length_cons]; omega)
        unfold withinR
        rw [h1]
        rfl
      have hz : decide (((List.length (y :: l) : Nat) : Int) = 0) = false := decide_eq_false (by simp only [List.length_cons]; omega)
      rw [hz, hw] at k2
      simp only [iteB, firstW] at k2 hx
      cases e2 : s_strings_HasPrefix (y, ([35], ())) with
      | none => rw [e2] at hx; cases hx
      | some q2 =>
        rw [e2] at hx k2
        simp only [bindR] at hx k2
        cases e3 : q2.1 with
        | true =>
          rw [e3] at hx k2
          refine wp_piece cxOk (tysT _ _ _) hfsL follows hpin code2 h hsz k2 fun own a w h hsz => ?_
          exact fin 0 rd own a w h hsz (Option.some.inj hx).symm
        | false =>
          rw [e3] at hx k2
          simp only at hx k2
          refine wp_piece cxOk (tysT _ _ _) hfsL follows hpin code2 h hsz k2 fun own a w h hsz => ?_
          refine wp_seq ?_
          obtain ⟨b, off, len, c, c1, c2, c3⟩ := words_at h
          obtain ⟨own1, o1, hr1, _, _⟩ := h.newRow (mapW tabW) none
          refine p3 y b off len c hsz c1 c2 c3 fun a' z1 z2 z3 z4 z5 => ?_
          have hf := idx_find y tabW 0
          have hx : doW (findW y tabW) (rd, (s, ())) = some r := hx
          rcases hf with ⟨f1, f2⟩ | ⟨j, f1, f2⟩
          · rw [f2] at hx
            rw [f1] at z5
            have z7 := look_none z5
            have hr := rel4 hr1 z2 z3 z4 z7
            refine wp_piece cxOk (tysT _ _ _) hfsL follows hpin code4 hr z1 (r4n 0 rd s) fun own a w h hsz => ?_
            exact fin 30 rd own a w h hsz (Option.some.inj hx).symm
          · rw [f1] at z5
            have z6 := (look_some z5).1
            have z7 := (look_some z5).2
            have hr := rel3 _ hr1 z2 z3 z4 z6 z7
            have go : ∀ (f : Option DLine), (∀ n, findW y tabW = n → run E Line.h 0 P4 (S3 rd s n) (kCap ([0, 1, 5], [1000000]) ([4], [1000000])) = bindR f fun q => some (.ret, SE q.2.1 q.1)) → f = some r → P4.wp Tryz.prog (QV ⟨Tryz.prog, E, w0, Z0, Mio, pin, zone, glob, defs⟩ 34 (Go.Proofs.YtogipciicekmoaaGreatDoor.Vm.fin E Tryz.f38.results.toList F_line.rt F_line.rm (ioKs ioBase F_line.ps) (outs F_line.ps)) r) a' (w.alloc (mapW tabW)) := by
              intro f hrun hfr
              obtain ⟨rn, rr⟩ : Σ' (q : DLine), r = q := ⟨r, rfl⟩
              rw [rr] at hfr
              have k5 : run E Line.h 0 P4 (S3 rd s (findW y tabW)) (kCap ([0, 1, 5], [1000000]) ([4], [1000000])) = some (.ret, SE rn.2.1 rn.1) := by
                rw [hrun _ rfl, hfr]
                rfl
              refine wp_piece cxOk (tysT _ _ _) hfsL follows hpin code4 hr z1 k5 fun own a w h hsz => ?_
              exact fin rn.1 rn.2.1 own a w h hsz rr
            have hfive := find_five _ f2
            rcases hfive with e | e | e | e | e
            · rw [e] at hx; exact go _ (fun n hn => by rw [← hn, e]; exact r436 0 rd s) hx
            · rw [e] at hx; exact go _ (fun n hn => by rw [← hn, e]; exact r437 0 rd s) hx
            · rw [e] at hx; exact go _ (fun n hn => by rw [← hn, e]; exact r438 0 rd s) hx
            · rw [e] at hx; exact go _ (fun n hn => by rw [← hn, e]; exact r439 0 rd s) hx
            · rw [e] at hx; exact go _ (fun n hn => by rw [← hn, e]; exact r440 0 rd s) hx
end
end Go.Proofs.YtogipciicekmoaaGreatDoor.Vm.Gz
