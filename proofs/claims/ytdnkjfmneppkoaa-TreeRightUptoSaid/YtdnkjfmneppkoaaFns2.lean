/- What the functions of trees compute, as plain functions; that they do. -/
import Derived.Test.YtdnkjfmneppkoaaFns
import Derived.KernelRfl
namespace Go.Proofs.Ytdnkjfmneppkoaa.Vm.Tr
open Go Go.Proofs.Ytdnkjfmneppkoaa.Vm Go.Proofs
set_option linter.unusedVariables false
set_option maxRecDepth 100000
noncomputable section
namespace symbols_noted_1
def E : Env cx := { tys := tys, fs := fsOf [(60, F_slices_ContainsFuncx_i2), (82, F_slices_Clone), (84, F_symbols_note), (85, F_slices_Equal)] }
abbrev R := Option ((Bool) × (Unit))
abbrev C := Exit → ST cx → R
noncomputable def b : Code := bodyC Try.f81
def h : Hint := { vs := [0, 1, 2, 3, 4, 5, 7, 8, 9, 10], nil := [], cuts := [(5, ([0, 4, 5, 8, 27], []), ([0, 4, 5, 8], [])), (6, ([0, 4, 5, 8], []), ([0, 4, 5, 8], []))], ret := ([7], []), ords := [] }
def K0 : C := fin (S := cx) E Try.f81.results.toList .bool .ro [] []
def c0 : Code := subC b [1]
def K1 (k : Nat) : C := outD h c0 K0
def c1 : Code := subC b [1, 1]
def K3 (k : Nat) : C := outD h c1 (K1 k)
def c4 : Code := subC b [1, 1, 1]
def K9 (k : Nat) : C := outD h c4 (K3 k)
def c5 : Code := subC b [1, 1, 1, 1]
def K11 (k : Nat) : C := outD h c5 (K9 k)
def K12 (k : Nat) : C := seqC E h k c5 (K9 k)
def c6 : Code := subC b [1, 1, 1, 0, 1]
def K13 (k : Nat) : C := outD h c6 (K12 k)
abbrev T2 := (List (Int)) → Int → D0 → (List (Int)) → R
abbrev T1 := (List (Int)) → Int → D0 → (List (Int)) → Bool → R
abbrev T0 := (List (Int)) → Int → Int → Int → Int → D0 → R
abbrev s2 := fun x0 x4 x5 x8 => ({ vars := [(0, .v (.slice 3 (.int .i64)) .ro x0), (4, .rp (.int .u8) x4), (5, .rp ty0 x5), (8, .v (.slice 3 (.int .i64)) .ro x8)], scr := [], mems := [] } : ST cx)
def u2 (k : Nat) : T2 := fun x0 x4 x5 x8 => uK (run E h k c5) (s2 x0 x4 x5 x8) (K11 k)
abbrev l2 (k : Nat) : T2 := fun x0 x4 x5 x8 => cutK (run E h k c5) (s2 x0 x4 x5 x8) (K11 k)
abbrev s1 := fun x0 x4 x5 x8 x27 => ({ vars := [(0, .v (.slice 3 (.int .i64)) .ro x0), (4, .rp (.int .u8) x4), (5, .rp ty0 x5), (8, .v (.slice 3 (.int .i64)) .ro x8), (27, .v .bool .ro x27)], scr := [], mems := [] } : ST cx)
def u1 (k : Nat) : T1 := fun x0 x4 x5 x8 x27 => uK (run E h k c6) (s1 x0 x4 x5 x8 x27) (K13 k)
abbrev l1 (k : Nat) : T1 := fun x0 x4 x5 x8 x27 => cutK (run E h k c6) (s1 x0 x4 x5 x8 x27) (K13 k)
def u0 (k : Nat) : T0 := fun x0 x1 x2 x3 x4 x5 => runOf (S := cx) E h k Try.f81 [.val (.slice 3 (.int .i64)), .val (.box (.int .i64)), .val (.box (.int .i64)), .val (.box (.int .i64)), .val (.box (.int .u8)), .val (.box ty0)] .bool .ro (x0, x1, x2, x3, x4, x5, ())
def t2 : T2 := fun x0 x4 x5 x8 => 
  (bindR (s_slices_ContainsFuncx_i2 (x8, ((x5, ()), ()))) fun r3 => (iteB r3.1 (some (true, ())) (bindR (s_symbols_note (x5, (x4, (x8, ())))) fun r4 => (iteB (notB r4.1.2) (some (true, ())) (bindR (s_slices_Equal (r4.1.1, (x0, ()))) fun r5 => (some ((notB r5.1), ())))))))
theorem e2 (k : Nat) : u2 k = t2 := by kernel_rfl
theorem g2 (k : Nat) : l2 k = u2 k := funext fun _ => funext fun _ => funext fun _ => funext fun _ => cut_u _ _ _
def p2 (k : Nat) : T2 := t2
theorem o2 (k : Nat) : l2 k = p2 k := (Eq.trans (b := u2 k) (g2 k) (Eq.trans (b := t2) (e2 k) (by kernel_rfl)))
def t1 (f2 : T2) : T1 := fun x0 x4 x5 x8 x27 => 
  (iteB x27 (mustR (decide (0 ≤ (2 : Int))) (mustR (decide ((2 : Int) ≤ (((List.length x8) : Nat) : Int))) (f2 x0 x4 x5 (List.drop 0 (List.take (Int.toNat (2 : Int)) x8))))) (f2 x0 x4 x5 x8))
theorem e1 (k : Nat) : u1 k = t1 (l2 k) := by kernel_rfl
theorem g1 (k : Nat) : l1 k = u1 k := funext fun _ => funext fun _ => funext fun _ => funext fun _ => funext fun _ => cut_u _ _ _
theorem d1 {x2 y2 : T2} (h2 : x2 = y2) : t1 x2 = t1 y2 := by subst h2; rfl
def p1 (k : Nat) : T1 := t1 (p2 k)
theorem o1 (k : Nat) : l1 k = p1 k := (Eq.trans (b := u1 k) (g1 k) (Eq.trans (b := t1 (l2 k)) (e1 k) (Eq.trans (b := t1 (p2 k)) (d1 (o2 k)) (by kernel_rfl))))
def t0 (f1 : T1) : T0 := fun x0 x1 x2 x3 x4 x5 => 
  (iteB (!decide (((List.length x0 : Nat) : Int) = x1)) (some (true, ())) (mustR (decide (0 ≤ x3)) (mustR (decide (x3 ≤ (((List.length x0) : Nat) : Int))) (mustR (decide (0 ≤ x2)) (mustR (decide (x2 ≤ (((Int.toNat x3) : Nat) : Int))) (bindR (s_slices_Clone ((List.drop (Int.toNat x2) (List.take (Int.toNat x3) x0)), ())) fun r1 => (iteB (decide (x4 = (1 : Int))) (withinR (2 : Int) (List.length r1.1) fun q2 => (f1 x0 x4 x5 r1.1 (decide ((List.getD r1.1 q2 (0 : Int)) = (-1 : Int))))) (f1 x0 x4 x5 r1.1 false))))))))
theorem e0 (k : Nat) : u0 k = t0 (l1 k) := by kernel_rfl
theorem d0 {x1 y1 : T1} (h1 : x1 = y1) : t0 x1 = t0 y1 := by subst h1; rfl
def p0 (k : Nat) : T0 := t0 (p1 k)
theorem o0 (k : Nat) : u0 k = p0 k := (Eq.trans (b := t0 (l1 k)) (e0 k) (Eq.trans (b := t0 (p1 k)) (d0 (o1 k)) (by kernel_rfl)))
end symbols_noted_1
def s_symbols_noted_1 (a : (List (Int)) × ((Int) × ((Int) × ((Int) × ((Int) × ((D0) × (Unit))))))) : Option ((Bool) × (Unit)) := symbols_noted_1.p0 (fuel) a.1 a.2.1 a.2.2.1 a.2.2.2.1 a.2.2.2.2.1 a.2.2.2.2.2.1
def F_symbols_noted_1 : FSpec cx.toNm := { ps := [.val (.slice 3 (.int .i64)), .val (.box (.int .i64)), .val (.box (.int .i64)), .val (.box (.int .i64)), .val (.box (.int .u8)), .val (.box ty0)], nres := 1, rt := .bool, rm := .ro, f := s_symbols_noted_1 }
theorem w_symbols_noted_1 (a : (List (Int)) × ((Int) × ((Int) × ((Int) × ((Int) × ((D0) × (Unit))))))) : runOf (S := cx) symbols_noted_1.E symbols_noted_1.h (fuel) Try.f81 F_symbols_noted_1.ps F_symbols_noted_1.rt F_symbols_noted_1.rm a = F_symbols_noted_1.f a := Eq.trans (b := symbols_noted_1.u0 (fuel) a.1 a.2.1 a.2.2.1 a.2.2.2.1 a.2.2.2.2.1 a.2.2.2.2.2.1) (by kernel_rfl) (Eq.trans (b := symbols_noted_1.p0 (fuel) a.1 a.2.1 a.2.2.1 a.2.2.2.1 a.2.2.2.2.1 a.2.2.2.2.2.1) (congrFun (congrFun (congrFun (congrFun (congrFun (congrFun (symbols_noted_1.o0 (fuel)) a.1) a.2.1) a.2.2.1) a.2.2.2.1) a.2.2.2.2.1) a.2.2.2.2.2.1) (by kernel_rfl))
theorem ok_symbols_noted_1 : FnOk Try.prog F_symbols_noted_1 81 := fn_of (hn := symbols_noted_1.h) (E := symbols_noted_1.E) cxOk (tysT _ _) (fs_cons ok_slices_ContainsFuncx_i2 (fs_cons ok_slices_Clone (fs_cons ok_symbols_note (fs_cons ok_slices_Equal fs_nil)))) follows Try.func81 (by kernel_rfl) (fun a r h => ⟨fuel, Eq.trans (w_symbols_noted_1 a) h⟩)
namespace slices_IndexFuncxx
def E : Env cx := { tys := tys, fs := fsOf [(81, F_symbols_noted_1)] }
abbrev R := Option ((Int) × (Unit))
abbrev C := Exit → ST cx → R
noncomputable def b : Code := bodyC Try.f91
def h : Hint := { vs := [0, 1, 4, 5, 7, 8], nil := [], cuts := [(2, ([0, 1, 7, 8], []), ([], [])), (7, ([], []), ([], []))], ret := ([4], []), ords := [] }
def K0 : C := fin (S := cx) E Try.f91.results.toList (.int .i64) .ro [] []
def c0 : Code := subC b [1]
def K1 (k : Nat) : C := outD h c0 K0
def c1 : Code := subC b [1, 1]
def K3 (k : Nat) : C := outD h c1 (K1 k)
def K4 (k : Nat) : C := seqC E h k c1 (K1 k)
def c2 : Code := subC b [1, 0, 1]
def K5 (k : Nat) : C := outD h c2 (K4 k)
def K7 (k : Nat) : C := blockK 0 (K5 k)
def c3 : Code := subC b [1, 0, 1, 0, 0]
abbrev T2 := R
abbrev T1 := (List (List (Int))) → ((Int) × ((Int) × ((Int) × ((Int) × ((D0) × (Unit)))))) → Int → Int → R
abbrev T0 := (List (List (Int))) → ((Int) × ((Int) × ((Int) × ((Int) × ((D0) × (Unit)))))) → R
abbrev s2 : ST cx := ({ vars := [], scr := [], mems := [] } : ST cx)
def u2 (k : Nat) : T2 := uK (run E h k c1) s2 (K3 k)
abbrev l2 (k : Nat) : T2 := cutK (run E h k c1) s2 (K3 k)
abbrev s1 := fun x0 x1 x7 x8 => ({ vars := [(0, .v (.slice 24 (.slice 3 (.int .i64))) .ro x0), (1, .v (.clo 81 (.pair (.box (.int .i64)) (.pair (.box (.int .i64)) (.pair (.box (.int .i64)) (.pair (.box (.int .u8)) (.pair (.box ty0) .unit)))))) .ro x1), (7, .v (.int .i64) .ro x7), (8, .v (.int .i64) .ro x8)], scr := [], mems := [] } : ST cx)
def u1 (k n1 : Nat) : T1 := fun x0 x1 x7 x8 => uK (loopL E h k c3 (K7 k) n1) (s1 x0 x1 x7 x8) ()
abbrev l1 (k n1 : Nat) : T1 := fun x0 x1 x7 x8 => cutK (loopL E h k c3 (K7 k) n1) (s1 x0 x1 x7 x8) ()
def u0 (k : Nat) : T0 := fun x0 x1 => runOf (S := cx) E h k Try.f91 [.val (.slice 24 (.slice 3 (.int .i64))), .val (.clo 81 (.pair (.box (.int .i64)) (.pair (.box (.int .i64)) (.pair (.box (.int .i64)) (.pair (.box (.int .u8)) (.pair (.box ty0) .unit))))))] (.int .i64) .ro (x0, x1, ())
def t2 : T2 := 
  (some ((-1 : Int), ()))
theorem e2 (k : Nat) : u2 k = t2 := by kernel_rfl
theorem g2 (k : Nat) : l2 k = u2 k := cut_u _ _ _
def p2 (k : Nat) : T2 := t2
theorem o2 (k : Nat) : l2 k = p2 k := (Eq.trans (b := u2 k) (g2 k) (Eq.trans (b := t2) (e2 k) (by kernel_rfl)))
def t1 (f1 : T1) (f2 : T2) : T1 := fun x0 x1 x7 x8 => 
  (iteB (decide (x8 < x7)) (withinR x8 (List.length x0) fun q1 => (bindR (s_symbols_noted_1 ((List.getD x0 q1 ([] : List (Int))), (x1.1, (x1.2.1, (x1.2.2.1, (x1.2.2.2.1, (x1.2.2.2.2.1, ()))))))) fun r2 => (iteB r2.1 (some (x8, ())) (f1 x0 x1 x7 (w64 (x8 + (1 : Int))))))) f2)
theorem e1 (k n1 : Nat) : u1 k (n1 + 1) = t1 (l1 k n1) (l2 k) := by kernel_rfl
theorem g1 (k n1 : Nat) : l1 k (n1 + 1) = u1 k (n1 + 1) := funext fun _ => funext fun _ => funext fun _ => funext fun _ => cut_u _ _ _
theorem d1 {x1 y1 : T1} {x2 y2 : T2} (h1 : x1 = y1) (h2 : x2 = y2) : t1 x1 x2 = t1 y1 y2 := by subst h1; subst h2; rfl
def p1 (k : Nat) : Nat → T1
  | 0 => fun _ _ _ _ => none
  | n1 + 1 => t1 (p1 k n1) (p2 k)
theorem o1 (k : Nat) : ∀ n1, l1 k n1 = p1 k n1 := by
  intro n1
  induction n1 with
  | zero => kernel_rfl
  | succ n1 ih => exact (Eq.trans (b := u1 k (n1 + 1)) (g1 k n1) (Eq.trans (b := t1 (l1 k n1) (l2 k)) (e1 k n1) (Eq.trans (b := t1 (p1 k n1) (p2 k)) (d1 ih (o2 k)) (by kernel_rfl))))
def t0 (f1 : T1) : T0 := fun x0 x1 => 
  (f1 x0 x1 ((List.length x0 : Nat) : Int) (0 : Int))
theorem e0 (k : Nat) : u0 k = t0 (l1 k k) := by kernel_rfl
theorem d0 {x1 y1 : T1} (h1 : x1 = y1) : t0 x1 = t0 y1 := by subst h1; rfl
def p0 (k : Nat) : T0 := t0 (p1 k k)
theorem o0 (k : Nat) : u0 k = p0 k := (Eq.trans (b := t0 (l1 k k)) (e0 k) (Eq.trans (b := t0 (p1 k k)) (d0 (o1 k k)) (by kernel_rfl)))
end slices_IndexFuncxx
def s_slices_IndexFuncxx (a : (List (List (Int))) × (((Int) × ((Int) × ((Int) × ((Int) × ((D0) × (Unit)))))) × (Unit))) : Option ((Int) × (Unit)) := slices_IndexFuncxx.p0 (fuel) a.1 a.2.1
def F_slices_IndexFuncxx : FSpec cx.toNm := { ps := [.val (.slice 24 (.slice 3 (.int .i64))), .val (.clo 81 (.pair (.box (.int .i64)) (.pair (.box (.int .i64)) (.pair (.box (.int .i64)) (.pair (.box (.int .u8)) (.pair (.box ty0) .unit))))))], nres := 1, rt := (.int .i64), rm := .ro, f := s_slices_IndexFuncxx }
theorem w_slices_IndexFuncxx (a : (List (List (Int))) × (((Int) × ((Int) × ((Int) × ((Int) × ((D0) × (Unit)))))) × (Unit))) : runOf (S := cx) slices_IndexFuncxx.E slices_IndexFuncxx.h (fuel) Try.f91 F_slices_IndexFuncxx.ps F_slices_IndexFuncxx.rt F_slices_IndexFuncxx.rm a = F_slices_IndexFuncxx.f a := Eq.trans (b := slices_IndexFuncxx.u0 (fuel) a.1 a.2.1) (by kernel_rfl) (Eq.trans (b := slices_IndexFuncxx.p0 (fuel) a.1 a.2.1) (congrFun (congrFun (slices_IndexFuncxx.o0 (fuel)) a.1) a.2.1) (by kernel_rfl))
theorem ok_slices_IndexFuncxx : FnOk Try.prog F_slices_IndexFuncxx 91 := fn_of (hn := slices_IndexFuncxx.h) (E := slices_IndexFuncxx.E) cxOk (tysT _ _) (fs_cons ok_symbols_noted_1 fs_nil) follows Try.func91 (by kernel_rfl) (fun a r h => ⟨fuel, Eq.trans (w_slices_IndexFuncxx a) h⟩)
namespace slices_ContainsFuncxx
def E : Env cx := { tys := tys, fs := fsOf [(91, F_slices_IndexFuncxx)] }
abbrev R := Option ((Bool) × (Unit))
abbrev C := Exit → ST cx → R
noncomputable def b : Code := bodyC Try.f80
def h : Hint := { vs := [0, 1, 4], nil := [], cuts := [], ret := ([4], []), ords := [] }
abbrev T0 := (List (List (Int))) → ((Int) × ((Int) × ((Int) × ((Int) × ((D0) × (Unit)))))) → R
def u0 (k : Nat) : T0 := fun x0 x1 => runOf (S := cx) E h k Try.f80 [.val (.slice 24 (.slice 3 (.int .i64))), .val (.clo 81 (.pair (.box (.int .i64)) (.pair (.box (.int .i64)) (.pair (.box (.int .i64)) (.pair (.box (.int .u8)) (.pair (.box ty0) .unit))))))] .bool .ro (x0, x1, ())
def t0 : T0 := fun x0 x1 => 
  (bindR (s_slices_IndexFuncxx (x0, (x1, ()))) fun r1 => (some ((decide ((0 : Int) ≤ r1.1)), ())))
theorem e0 (k : Nat) : u0 k = t0 := by kernel_rfl
def p0 (k : Nat) : T0 := t0
theorem o0 (k : Nat) : u0 k = p0 k := (Eq.trans (b := t0) (e0 k) (by kernel_rfl))
end slices_ContainsFuncxx
def s_slices_ContainsFuncxx (a : (List (List (Int))) × (((Int) × ((Int) × ((Int) × ((Int) × ((D0) × (Unit)))))) × (Unit))) : Option ((Bool) × (Unit)) := slices_ContainsFuncxx.p0 (fuel) a.1 a.2.1
def F_slices_ContainsFuncxx : FSpec cx.toNm := { ps := [.val (.slice 24 (.slice 3 (.int .i64))), .val (.clo 81 (.pair (.box (.int .i64)) (.pair (.box (.int .i64)) (.pair (.box (.int .i64)) (.pair (.box (.int .u8)) (.pair (.box ty0) .unit))))))], nres := 1, rt := .bool, rm := .ro, f := s_slices_ContainsFuncxx }
theorem w_slices_ContainsFuncxx (a : (List (List (Int))) × (((Int) × ((Int) × ((Int) × ((Int) × ((D0) × (Unit)))))) × (Unit))) : runOf (S := cx) slices_ContainsFuncxx.E slices_ContainsFuncxx.h (fuel) Try.f80 F_slices_ContainsFuncxx.ps F_slices_ContainsFuncxx.rt F_slices_ContainsFuncxx.rm a = F_slices_ContainsFuncxx.f a := Eq.trans (b := slices_ContainsFuncxx.u0 (fuel) a.1 a.2.1) (by kernel_rfl) (Eq.trans (b := slices_ContainsFuncxx.p0 (fuel) a.1 a.2.1) (congrFun (congrFun (slices_ContainsFuncxx.o0 (fuel)) a.1) a.2.1) (by kernel_rfl))
theorem ok_slices_ContainsFuncxx : FnOk Try.prog F_slices_ContainsFuncxx 80 := fn_of (hn := slices_ContainsFuncxx.h) (E := slices_ContainsFuncxx.E) cxOk (tysT _ _) (fs_cons ok_slices_IndexFuncxx fs_nil) follows Try.func80 (by kernel_rfl) (fun a r h => ⟨fuel, Eq.trans (w_slices_ContainsFuncxx a) h⟩)
namespace symbols_noted
def E : Env cx := { tys := tys, fs := fsOf [(80, F_slices_ContainsFuncxx)] }
abbrev R := Option ((Bool) × (Unit))
abbrev C := Exit → ST cx → R
noncomputable def b : Code := bodyC Try.f64
def h : Hint := { vs := [0, 1, 2, 3, 4, 5, 6, 7, 9, 10, 11, 12], nil := [], cuts := [], ret := ([12], [6, 7, 9, 10, 11]), ords := [] }
abbrev T0 := D0 → Int → (List (List (Int))) → Int → Int → Int → R
def u0 (k : Nat) : T0 := fun x0 x1 x2 x3 x4 x5 => runOf (S := cx) E h k Try.f64 [.val ty0, .val (.int .u8), .val (.slice 24 (.slice 3 (.int .i64))), .val (.int .i64), .val (.int .i64), .val (.int .i64)] .bool .ro (x0, x1, x2, x3, x4, x5, ())
def t0 : T0 := fun x0 x1 x2 x3 x4 x5 => 
  (bindR (s_slices_ContainsFuncxx (x2, ((x3, (x4, (x5, (x1, (x0, ()))))), ()))) fun r1 => (some ((notB r1.1), ())))
theorem e0 (k : Nat) : u0 k = t0 := by kernel_rfl
def p0 (k : Nat) : T0 := t0
theorem o0 (k : Nat) : u0 k = p0 k := (Eq.trans (b := t0) (e0 k) (by kernel_rfl))
end symbols_noted
def s_symbols_noted (a : (D0) × ((Int) × ((List (List (Int))) × ((Int) × ((Int) × ((Int) × (Unit))))))) : Option ((Bool) × (Unit)) := symbols_noted.p0 (fuel) a.1 a.2.1 a.2.2.1 a.2.2.2.1 a.2.2.2.2.1 a.2.2.2.2.2.1
def F_symbols_noted : FSpec cx.toNm := { ps := [.val ty0, .val (.int .u8), .val (.slice 24 (.slice 3 (.int .i64))), .val (.int .i64), .val (.int .i64), .val (.int .i64)], nres := 1, rt := .bool, rm := .ro, f := s_symbols_noted }
theorem w_symbols_noted (a : (D0) × ((Int) × ((List (List (Int))) × ((Int) × ((Int) × ((Int) × (Unit))))))) : runOf (S := cx) symbols_noted.E symbols_noted.h (fuel) Try.f64 F_symbols_noted.ps F_symbols_noted.rt F_symbols_noted.rm a = F_symbols_noted.f a := Eq.trans (b := symbols_noted.u0 (fuel) a.1 a.2.1 a.2.2.1 a.2.2.2.1 a.2.2.2.2.1 a.2.2.2.2.2.1) (by kernel_rfl) (Eq.trans (b := symbols_noted.p0 (fuel) a.1 a.2.1 a.2.2.1 a.2.2.2.1 a.2.2.2.2.1 a.2.2.2.2.2.1) (congrFun (congrFun (congrFun (congrFun (congrFun (congrFun (symbols_noted.o0 (fuel)) a.1) a.2.1) a.2.2.1) a.2.2.2.1) a.2.2.2.2.1) a.2.2.2.2.2.1) (by kernel_rfl))
theorem ok_symbols_noted : FnOk Try.prog F_symbols_noted 64 := fn_of (hn := symbols_noted.h) (E := symbols_noted.E) cxOk (tysT _ _) (fs_cons ok_slices_ContainsFuncxx fs_nil) follows Try.func64 (by kernel_rfl) (fun a r h => ⟨fuel, Eq.trans (w_symbols_noted a) h⟩)
namespace symbols_Right
def E : Env cx := { tys := tys, fs := fsOf [(56, F_symbols_isOther), (57, F_slices_ContainsFunc), (60, F_slices_ContainsFuncx), (62, F_symbols_worthy), (63, F_symbols_come), (64, F_symbols_noted)] }
abbrev R := Option ((Bool) × (Unit))
abbrev C := Exit → ST cx → R
noncomputable def b : Code := bodyC Try.f36
def h : Hint := { vs := [0, 1, 2, 3, 4, 5, 6], nil := [], cuts := [(3, ([1, 3, 8], [3]), ([1], [])), (5, ([1, 3, 38], [3]), ([1], [])), (10, ([1], []), ([1], [])), (12, ([1, 4, 5, 6], []), ([1], [])), (13, ([1, 4, 5, 6], []), ([1, 4, 5, 6], [])), (15, ([1, 4, 5, 6, 84], []), ([1, 4, 5, 6], [])), (16, ([1], []), ([1], []))], ret := ([2], [1, 3]), ords := [(10, [0, 2, 1, 3, 4, 5])], clos := [(3, (.clo 54 (.pair (.box ty0) .unit)))] }
def K0 : C := fin (S := cx) E Try.f36.results.toList .bool .ro [] []
def c0 : Code := subC b [1]
def K1 (k : Nat) : C := outD h c0 K0
def c1 : Code := subC b [1, 1]
def K3 (k : Nat) : C := outD h c1 (K1 k)
def c2 : Code := subC b [1, 1, 1]
def K5 (k : Nat) : C := outD h c2 (K3 k)
def K6 (k : Nat) : C := seqC E h k c2 (K3 k)
def K7 (k : Nat) : C := blockK 0 (K6 k)
def c3 : Code := subC b [1, 1, 0, 0, 1]
def K8 (k : Nat) : C := outD h c3 (K7 k)
def c5 : Code := subC b [1, 1, 0, 0, 1, 1, 1]
def K12 (k : Nat) : C := outD h c5 (K8 k)
def c11 : Code := subC b [1, 1, 1, 1]
def K24 (k : Nat) : C := outD h c11 (K5 k)
def c12 : Code := subC b [1, 1, 1, 1, 1]
def K26 (k : Nat) : C := outD h c12 (K24 k)
def K27 (k : Nat) : C := seqC E h k c12 (K24 k)
def c13 : Code := subC b [1, 1, 1, 1, 0, 1]
def K28 (k : Nat) : C := outD h c13 (K27 k)
def K30 (k : Nat) : C := blockK 1 (K28 k)
def c14 : Code := subC b [1, 1, 1, 1, 0, 1, 0, 0]
def K31 (k n4 : Nat) : C := loopD E h k c14 (K30 k) n4
def c15 : Code := subC b [1, 1, 1, 1, 0, 1, 0, 0, 1]
def K32 (k n4 : Nat) : C := outD h c15 (K31 k n4)
def c17 : Code := subC b [1, 1, 1, 1, 0, 1, 0, 0, 1, 1]
def K36 (k n4 : Nat) : C := outD h c17 (K32 k n4)
def K37 (k n4 : Nat) : C := seqC E h k c17 (K32 k n4)
def K38 (k n4 : Nat) : C := blockK 2 (K37 k n4)
def c18 : Code := subC b [1, 1, 1, 1, 0, 1, 0, 0, 1, 0, 0, 1]
def K39 (k n4 : Nat) : C := outD h c18 (K38 k n4)
abbrev T7 := D0 → (List (Bool)) → (List (Bool)) → Int → R
abbrev T5 := D0 → (List (Bool)) → (List (Bool)) → Int → Bool → R
abbrev T6 := D0 → R
abbrev T4 := D0 → (List (Bool)) → (List (Bool)) → Int → R
abbrev T3 := D0 → R
abbrev T2 := D0 → Bool → ((D0) × (Unit)) → R
abbrev T1 := D0 → Bool → ((D0) × (Unit)) → R
abbrev T0 := D0 → R
abbrev s7 := fun x1 x4 x5 x6 => ({ vars := [(1, .rp ty0 x1), (4, .v (.slice 4 .bool) .ro x4), (5, .v (.slice 4 .bool) .ro x5), (6, .v (.int .i64) .ro x6)], scr := [], mems := [] } : ST cx)
def u7 (k n4 : Nat) : T7 := fun x1 x4 x5 x6 => uK (run E h k c17) (s7 x1 x4 x5 x6) (K36 k n4)
abbrev l7 (k n4 : Nat) : T7 := fun x1 x4 x5 x6 => cutK (run E h k c17) (s7 x1 x4 x5 x6) (K36 k n4)
abbrev s5 := fun x1 x4 x5 x6 x84 => ({ vars := [(1, .rp ty0 x1), (4, .v (.slice 4 .bool) .ro x4), (5, .v (.slice 4 .bool) .ro x5), (6, .v (.int .i64) .ro x6), (84, .v .bool .ro x84)], scr := [], mems := [] } : ST cx)
def u5 (k n4 : Nat) : T5 := fun x1 x4 x5 x6 x84 => uK (run E h k c18) (s5 x1 x4 x5 x6 x84) (K39 k n4)
abbrev l5 (k n4 : Nat) : T5 := fun x1 x4 x5 x6 x84 => cutK (run E h k c18) (s5 x1 x4 x5 x6 x84) (K39 k n4)
abbrev s6 := fun x1 => ({ vars := [(1, .rp ty0 x1)], scr := [], mems := [] } : ST cx)
def u6 (k : Nat) : T6 := fun x1 => uK (run E h k c12) (s6 x1) (K26 k)
abbrev l6 (k : Nat) : T6 := fun x1 => cutK (run E h k c12) (s6 x1) (K26 k)
abbrev s4 := fun x1 x4 x5 x6 => ({ vars := [(1, .rp ty0 x1), (4, .v (.slice 4 .bool) .ro x4), (5, .v (.slice 4 .bool) .ro x5), (6, .v (.int .i64) .ro x6)], scr := [], mems := [] } : ST cx)
def u4 (k n4 : Nat) : T4 := fun x1 x4 x5 x6 => uK (loopL E h k c14 (K30 k) n4) (s4 x1 x4 x5 x6) ()
abbrev l4 (k n4 : Nat) : T4 := fun x1 x4 x5 x6 => cutK (loopL E h k c14 (K30 k) n4) (s4 x1 x4 x5 x6) ()
abbrev s3 := fun x1 => ({ vars := [(1, .rp ty0 x1)], scr := [], mems := [] } : ST cx)
def u3 (k : Nat) : T3 := fun x1 => uK (run E h k c2) (s3 x1) (K5 k)
abbrev l3 (k : Nat) : T3 := fun x1 => cutK (run E h k c2) (s3 x1) (K5 k)
abbrev s2 := fun x1 x38 m3 => ({ vars := [(1, .rp ty0 x1), (3, .addr (.mem 3) []), (38, .v .bool .ro x38)], scr := [], mems := [(3, ⟨(.clo 54 (.pair (.box ty0) .unit)), .ro, m3⟩)] } : ST cx)
def u2 (k : Nat) : T2 := fun x1 x38 m3 => uK (run E h k c5) (s2 x1 x38 m3) (K12 k)
abbrev l2 (k : Nat) : T2 := fun x1 x38 m3 => cutK (run E h k c5) (s2 x1 x38 m3) (K12 k)
abbrev s1 := fun x1 x8 m3 => ({ vars := [(1, .rp ty0 x1), (3, .addr (.mem 3) []), (8, .v .bool .ro x8)], scr := [], mems := [(3, ⟨(.clo 54 (.pair (.box ty0) .unit)), .ro, m3⟩)] } : ST cx)
def u1 (k : Nat) : T1 := fun x1 x8 m3 => uK (run E h k c3) (s1 x1 x8 m3) (K8 k)
abbrev l1 (k : Nat) : T1 := fun x1 x8 m3 => cutK (run E h k c3) (s1 x1 x8 m3) (K8 k)
def u0 (k : Nat) : T0 := fun x0 => runOf (S := cx) E h k Try.f36 [.val ty0] .bool .ro (x0, ())
def t7 (f4 : T4) : T7 := fun x1 x4 x5 x6 => 
  (f4 x1 x4 x5 (w64 (x6 + (1 : Int))))
theorem e7 (k n4 : Nat) : u7 k n4 = t7 (l4 k n4) := by kernel_rfl
theorem g7 (k n4 : Nat) : l7 k n4 = u7 k n4 := funext fun _ => funext fun _ => funext fun _ => funext fun _ => cut_u _ _ _
theorem d7 {x4 y4 : T4} (h4 : x4 = y4) : t7 x4 = t7 y4 := by subst h4; rfl
def p7 (k : Nat) (a4 : T4) : T7 := t7 a4
theorem o7 (k n4 : Nat) (a4 : T4) (h4 : l4 k n4 = a4) : l7 k n4 = p7 k a4 := (Eq.trans (b := u7 k n4) (g7 k n4) (Eq.trans (b := t7 (l4 k n4)) (e7 k n4) (Eq.trans (b := t7 a4) (d7 h4) (by kernel_rfl))))
def t5 (f7 : T7) : T5 := fun x1 x4 x5 x6 x84 => 
  (iteB x84 (some (false, ())) (f7 x1 x4 x5 x6))
theorem e5 (k n4 : Nat) : u5 k n4 = t5 (l7 k n4) := by kernel_rfl
theorem g5 (k n4 : Nat) : l5 k n4 = u5 k n4 := funext fun _ => funext fun _ => funext fun _ => funext fun _ => funext fun _ => cut_u _ _ _
theorem d5 {x7 y7 : T7} (h7 : x7 = y7) : t5 x7 = t5 y7 := by subst h7; rfl
def p5 (k : Nat) (a4 : T4) : T5 := t5 (p7 k a4)
theorem o5 (k n4 : Nat) (a4 : T4) (h4 : l4 k n4 = a4) : l5 k n4 = p5 k a4 := (Eq.trans (b := u5 k n4) (g5 k n4) (Eq.trans (b := t5 (l7 k n4)) (e5 k n4) (Eq.trans (b := t5 (p7 k a4)) (d5 (o7 k n4 a4 h4)) (by kernel_rfl))))
def t6 : T6 := fun x1 => 
  (bindR (s_symbols_noted (x1, ((1 : Int), (x1.2.2.2.2.2.2.1, ((5 : Int), ((0 : Int), ((3 : Int), ()))))))) fun r8 => (iteB r8.1 (bindR (s_symbols_noted (x1, ((2 : Int), (x1.2.2.2.2.2.2.2.1, ((5 : Int), ((1 : Int), ((5 : Int), ()))))))) fun r9 => (iteB r9.1 (bindR (s_symbols_noted (x1, ((3 : Int), (x1.2.2.2.2.2.2.2.2, ((3 : Int), ((1 : Int), ((3 : Int), ()))))))) fun r10 => (some (r10.1, ()))) (some (false, ())))) (some (false, ()))))
theorem e6 (k : Nat) : u6 k = t6 := by kernel_rfl
theorem g6 (k : Nat) : l6 k = u6 k := funext fun _ => cut_u _ _ _
def p6 (k : Nat) : T6 := t6
theorem o6 (k : Nat) : l6 k = p6 k := (Eq.trans (b := u6 k) (g6 k) (Eq.trans (b := t6) (e6 k) (by kernel_rfl)))
def t4 (f5 : T5) (f6 : T6) : T4 := fun x1 x4 x5 x6 => 
  (iteB (decide (x6 < ((List.length x1.1 : Nat) : Int))) (withinR x6 (List.length x4) fun q6 => (iteB (notB (List.getD x4 q6 false)) (f5 x1 x4 x5 x6 true) (withinR x6 (List.length x5) fun q7 => (f5 x1 x4 x5 x6 (notB (List.getD x5 q7 false)))))) (f6 x1))
theorem e4 (k n4 : Nat) : u4 k (n4 + 1) = t4 (l5 k n4) (l6 k) := by kernel_rfl
theorem g4 (k n4 : Nat) : l4 k (n4 + 1) = u4 k (n4 + 1) := funext fun _ => funext fun _ => funext fun _ => funext fun _ => cut_u _ _ _
theorem d4 {x5 y5 : T5} {x6 y6 : T6} (h5 : x5 = y5) (h6 : x6 = y6) : t4 x5 x6 = t4 y5 y6 := by subst h5; subst h6; rfl
def p4 (k : Nat) : Nat → T4
  | 0 => fun _ _ _ _ => none
  | n4 + 1 => t4 (p5 k (p4 k n4)) (p6 k)
theorem o4 (k : Nat) : ∀ n4, l4 k n4 = p4 k n4 := by
  intro n4
  induction n4 with
  | zero => kernel_rfl
  | succ n4 ih => exact (Eq.trans (b := u4 k (n4 + 1)) (g4 k n4) (Eq.trans (b := t4 (l5 k n4) (l6 k)) (e4 k n4) (Eq.trans (b := t4 (p5 k (p4 k n4)) (p6 k)) (d4 (o5 k n4 (p4 k n4) ih) (o6 k)) (by kernel_rfl))))
def t3 (f4 : T4) : T3 := fun x1 => 
  (bindR (s_symbols_worthy (x1, ())) fun r4 => (bindR (s_symbols_come (x1, ())) fun r5 => (f4 x1 r4.1 r5.1 (w64 (x1.2.1 + (1 : Int))))))
theorem e3 (k : Nat) : u3 k = t3 (l4 k k) := by kernel_rfl
theorem g3 (k : Nat) : l3 k = u3 k := funext fun _ => cut_u _ _ _
theorem d3 {x4 y4 : T4} (h4 : x4 = y4) : t3 x4 = t3 y4 := by subst h4; rfl
def p3 (k : Nat) : T3 := t3 (p4 k k)
theorem o3 (k : Nat) : l3 k = p3 k := (Eq.trans (b := u3 k) (g3 k) (Eq.trans (b := t3 (l4 k k)) (e3 k) (Eq.trans (b := t3 (p4 k k)) (d3 (o4 k k)) (by kernel_rfl))))
def t2 (f3 : T3) : T2 := fun x1 x38 m3 => 
  (iteB x38 (some (false, ())) (bindR (s_slices_ContainsFunc (x1.2.2.2.1, ((x1, (m3, ())), ()))) fun r2 => (iteB r2.1 (some (false, ())) (bindR (s_slices_ContainsFuncx (x1.2.2.2.2.1, ((x1, ()), ()))) fun r3 => (iteB r3.1 (some (false, ())) (f3 x1))))))
theorem e2 (k : Nat) : u2 k = t2 (l3 k) := by kernel_rfl
theorem g2 (k : Nat) : l2 k = u2 k := funext fun _ => funext fun _ => funext fun _ => cut_u _ _ _
theorem d2 {x3 y3 : T3} (h3 : x3 = y3) : t2 x3 = t2 y3 := by subst h3; rfl
def p2 (k : Nat) : T2 := t2 (p3 k)
theorem o2 (k : Nat) : l2 k = p2 k := (Eq.trans (b := u2 k) (g2 k) (Eq.trans (b := t2 (l3 k)) (e2 k) (Eq.trans (b := t2 (p3 k)) (d2 (o3 k)) (by kernel_rfl))))
def t1 (f2 : T2) : T1 := fun x1 x8 m3 => 
  (iteB x8 (some (false, ())) (iteB (decide (((List.length x1.2.2.2.1 : Nat) : Int) < (1 : Int))) (f2 x1 true m3) (f2 x1 (decide ((64 : Int) < ((List.length x1.2.2.2.1 : Nat) : Int))) m3)))
theorem e1 (k : Nat) : u1 k = t1 (l2 k) := by kernel_rfl
theorem g1 (k : Nat) : l1 k = u1 k := funext fun _ => funext fun _ => funext fun _ => cut_u _ _ _
theorem d1 {x2 y2 : T2} (h2 : x2 = y2) : t1 x2 = t1 y2 := by subst h2; rfl
def p1 (k : Nat) : T1 := t1 (p2 k)
theorem o1 (k : Nat) : l1 k = p1 k := (Eq.trans (b := u1 k) (g1 k) (Eq.trans (b := t1 (l2 k)) (e1 k) (Eq.trans (b := t1 (p2 k)) (d1 (o2 k)) (by kernel_rfl))))
def t0 (f1 : T1) : T0 := fun x0 => 
  (iteB (decide (x0.2.1 < (1 : Int))) (f1 x0 true (x0, ())) (iteB (decide ((32 : Int) < x0.2.1)) (f1 x0 true (x0, ())) (bindR (s_symbols_isOther (x0, (x0.2.2.1, ()))) fun r1 => (iteB (notB r1.1) (f1 x0 true (x0, ())) (iteB (!decide (((List.length x0.2.2.2.2.2.1 : Nat) : Int) = x0.2.1)) (f1 x0 true (x0, ())) (f1 x0 (decide ((32 : Int) < ((List.length x0.2.2.2.2.1 : Nat) : Int))) (x0, ())))))))
theorem e0 (k : Nat) : u0 k = t0 (l1 k) := by kernel_rfl
theorem d0 {x1 y1 : T1} (h1 : x1 = y1) : t0 x1 = t0 y1 := by subst h1; rfl
def p0 (k : Nat) : T0 := t0 (p1 k)
theorem o0 (k : Nat) : u0 k = p0 k := (Eq.trans (b := t0 (l1 k)) (e0 k) (Eq.trans (b := t0 (p1 k)) (d0 (o1 k)) (by kernel_rfl)))
end symbols_Right
def s_symbols_Right (a : (D0) × (Unit)) : Option ((Bool) × (Unit)) := symbols_Right.p0 (fuel) a.1
def F_symbols_Right : FSpec cx.toNm := { ps := [.val ty0], nres := 1, rt := .bool, rm := .ro, f := s_symbols_Right }
theorem w_symbols_Right (a : (D0) × (Unit)) : runOf (S := cx) symbols_Right.E symbols_Right.h (fuel) Try.f36 F_symbols_Right.ps F_symbols_Right.rt F_symbols_Right.rm a = F_symbols_Right.f a := Eq.trans (b := symbols_Right.u0 (fuel) a.1) (by kernel_rfl) (Eq.trans (b := symbols_Right.p0 (fuel) a.1) (congrFun (symbols_Right.o0 (fuel)) a.1) (by kernel_rfl))
theorem ok_symbols_Right : FnOk Try.prog F_symbols_Right 36 := fn_of (hn := symbols_Right.h) (E := symbols_Right.E) cxOk (tysT _ _) (fs_cons ok_symbols_isOther (fs_cons ok_slices_ContainsFunc (fs_cons ok_slices_ContainsFuncx (fs_cons ok_symbols_worthy (fs_cons ok_symbols_come (fs_cons ok_symbols_noted fs_nil)))))) follows Try.func36 (by kernel_rfl) (fun a r h => ⟨fuel, Eq.trans (w_symbols_Right a) h⟩)
namespace slices_Index
def E : Env cx := { tys := tys, fs := fsOf [] }
abbrev R := Option ((Int) × (Unit))
abbrev C := Exit → ST cx → R
noncomputable def b : Code := bodyC Try.f86
def h : Hint := { vs := [0, 1, 4, 5, 7, 8], nil := [], cuts := [(2, ([0, 1, 7, 8], []), ([], [])), (7, ([], []), ([], []))], ret := ([4], []), ords := [] }
def K0 : C := fin (S := cx) E Try.f86.results.toList (.int .i64) .ro [] []
def c0 : Code := subC b [1]
def K1 (k : Nat) : C := outD h c0 K0
def c1 : Code := subC b [1, 1]
def K3 (k : Nat) : C := outD h c1 (K1 k)
def K4 (k : Nat) : C := seqC E h k c1 (K1 k)
def c2 : Code := subC b [1, 0, 1]
def K5 (k : Nat) : C := outD h c2 (K4 k)
def K7 (k : Nat) : C := blockK 0 (K5 k)
def c3 : Code := subC b [1, 0, 1, 0, 0]
abbrev T2 := R
abbrev T1 := (List (Option N1)) → (Option N1) → Int → Int → R
abbrev T0 := (List (Option N1)) → (Option N1) → R
abbrev s2 : ST cx := ({ vars := [], scr := [], mems := [] } : ST cx)
def u2 (k : Nat) : T2 := uK (run E h k c1) s2 (K3 k)
abbrev l2 (k : Nat) : T2 := cutK (run E h k c1) s2 (K3 k)
abbrev s1 := fun x0 x1 x7 x8 => ({ vars := [(0, .v (.slice 35 (.ptr 1)) .ro x0), (1, .v (.ptr 1) .ro x1), (7, .v (.int .i64) .ro x7), (8, .v (.int .i64) .ro x8)], scr := [], mems := [] } : ST cx)
def u1 (k n1 : Nat) : T1 := fun x0 x1 x7 x8 => uK (loopL E h k c3 (K7 k) n1) (s1 x0 x1 x7 x8) ()
abbrev l1 (k n1 : Nat) : T1 := fun x0 x1 x7 x8 => cutK (loopL E h k c3 (K7 k) n1) (s1 x0 x1 x7 x8) ()
def u0 (k : Nat) : T0 := fun x0 x1 => runOf (S := cx) E h k Try.f86 [.val (.slice 35 (.ptr 1)), .val (.ptr 1)] (.int .i64) .ro (x0, x1, ())
def t2 : T2 := 
  (some ((-1 : Int), ()))
theorem e2 (k : Nat) : u2 k = t2 := by kernel_rfl
theorem g2 (k : Nat) : l2 k = u2 k := cut_u _ _ _
def p2 (k : Nat) : T2 := t2
theorem o2 (k : Nat) : l2 k = p2 k := (Eq.trans (b := u2 k) (g2 k) (Eq.trans (b := t2) (e2 k) (by kernel_rfl)))
def t1 (f1 : T1) (f2 : T2) : T1 := fun x0 x1 x7 x8 => 
  (iteB (decide (x8 < x7)) (withinR x8 (List.length x0) fun q1 => (ptrR x1 (List.getD x0 q1 none) (some (x8, ())) (f1 x0 x1 x7 (w64 (x8 + (1 : Int)))))) f2)
theorem e1 (k n1 : Nat) : u1 k (n1 + 1) = t1 (l1 k n1) (l2 k) := by kernel_rfl
theorem g1 (k n1 : Nat) : l1 k (n1 + 1) = u1 k (n1 + 1) := funext fun _ => funext fun _ => funext fun _ => funext fun _ => cut_u _ _ _
theorem d1 {x1 y1 : T1} {x2 y2 : T2} (h1 : x1 = y1) (h2 : x2 = y2) : t1 x1 x2 = t1 y1 y2 := by subst h1; subst h2; rfl
def p1 (k : Nat) : Nat → T1
  | 0 => fun _ _ _ _ => none
  | n1 + 1 => t1 (p1 k n1) (p2 k)
theorem o1 (k : Nat) : ∀ n1, l1 k n1 = p1 k n1 := by
  intro n1
  induction n1 with
  | zero => kernel_rfl
  | succ n1 ih => exact (Eq.trans (b := u1 k (n1 + 1)) (g1 k n1) (Eq.trans (b := t1 (l1 k n1) (l2 k)) (e1 k n1) (Eq.trans (b := t1 (p1 k n1) (p2 k)) (d1 ih (o2 k)) (by kernel_rfl))))
def t0 (f1 : T1) : T0 := fun x0 x1 => 
  (f1 x0 x1 ((List.length x0 : Nat) : Int) (0 : Int))
theorem e0 (k : Nat) : u0 k = t0 (l1 k k) := by kernel_rfl
theorem d0 {x1 y1 : T1} (h1 : x1 = y1) : t0 x1 = t0 y1 := by subst h1; rfl
def p0 (k : Nat) : T0 := t0 (p1 k k)
theorem o0 (k : Nat) : u0 k = p0 k := (Eq.trans (b := t0 (l1 k k)) (e0 k) (Eq.trans (b := t0 (p1 k k)) (d0 (o1 k k)) (by kernel_rfl)))
end slices_Index
def s_slices_Index (a : (List (Option N1)) × ((Option N1) × (Unit))) : Option ((Int) × (Unit)) := slices_Index.p0 (fuel) a.1 a.2.1
def F_slices_Index : FSpec cx.toNm := { ps := [.val (.slice 35 (.ptr 1)), .val (.ptr 1)], nres := 1, rt := (.int .i64), rm := .ro, f := s_slices_Index }
theorem w_slices_Index (a : (List (Option N1)) × ((Option N1) × (Unit))) : runOf (S := cx) slices_Index.E slices_Index.h (fuel) Try.f86 F_slices_Index.ps F_slices_Index.rt F_slices_Index.rm a = F_slices_Index.f a := Eq.trans (b := slices_Index.u0 (fuel) a.1 a.2.1) (by kernel_rfl) (Eq.trans (b := slices_Index.p0 (fuel) a.1 a.2.1) (congrFun (congrFun (slices_Index.o0 (fuel)) a.1) a.2.1) (by kernel_rfl))
theorem ok_slices_Index : FnOk Try.prog F_slices_Index 86 := fn_of (hn := slices_Index.h) (E := slices_Index.E) cxOk (tysT _ _) fs_nil follows Try.func86 (by kernel_rfl) (fun a r h => ⟨fuel, Eq.trans (w_slices_Index a) h⟩)
namespace slices_Contains
def E : Env cx := { tys := tys, fs := fsOf [(86, F_slices_Index)] }
abbrev R := Option ((Bool) × (Unit))
abbrev C := Exit → ST cx → R
noncomputable def b : Code := bodyC Try.f66
def h : Hint := { vs := [0, 1, 4], nil := [], cuts := [], ret := ([4], []), ords := [] }
abbrev T0 := (List (Option N1)) → (Option N1) → R
def u0 (k : Nat) : T0 := fun x0 x1 => runOf (S := cx) E h k Try.f66 [.val (.slice 35 (.ptr 1)), .val (.ptr 1)] .bool .ro (x0, x1, ())
def t0 : T0 := fun x0 x1 => 
  (bindR (s_slices_Index (x0, (x1, ()))) fun r1 => (some ((decide ((0 : Int) ≤ r1.1)), ())))
theorem e0 (k : Nat) : u0 k = t0 := by kernel_rfl
def p0 (k : Nat) : T0 := t0
theorem o0 (k : Nat) : u0 k = p0 k := (Eq.trans (b := t0) (e0 k) (by kernel_rfl))
end slices_Contains
def s_slices_Contains (a : (List (Option N1)) × ((Option N1) × (Unit))) : Option ((Bool) × (Unit)) := slices_Contains.p0 (fuel) a.1 a.2.1
def F_slices_Contains : FSpec cx.toNm := { ps := [.val (.slice 35 (.ptr 1)), .val (.ptr 1)], nres := 1, rt := .bool, rm := .ro, f := s_slices_Contains }
theorem w_slices_Contains (a : (List (Option N1)) × ((Option N1) × (Unit))) : runOf (S := cx) slices_Contains.E slices_Contains.h (fuel) Try.f66 F_slices_Contains.ps F_slices_Contains.rt F_slices_Contains.rm a = F_slices_Contains.f a := Eq.trans (b := slices_Contains.u0 (fuel) a.1 a.2.1) (by kernel_rfl) (Eq.trans (b := slices_Contains.p0 (fuel) a.1 a.2.1) (congrFun (congrFun (slices_Contains.o0 (fuel)) a.1) a.2.1) (by kernel_rfl))
theorem ok_slices_Contains : FnOk Try.prog F_slices_Contains 66 := fn_of (hn := slices_Contains.h) (E := slices_Contains.E) cxOk (tysT _ _) (fs_cons ok_slices_Index fs_nil) follows Try.func66 (by kernel_rfl) (fun a r h => ⟨fuel, Eq.trans (w_slices_Contains a) h⟩)
namespace tree_toks
def E : Env cx := { tys := tys, fs := fsOf [] }
abbrev R := Option ((Int) × (Unit))
abbrev C := Exit → ST cx → R
noncomputable def b : Code := bodyC Try.f40
def h : Hint := { vs := [0, 2, 3, 5, 6, 7, 8], nil := [], cuts := [(3, ([3, 6, 7, 8], []), ([3], [])), (7, ([3, 6, 7, 8], []), ([3, 6, 7, 8], [])), (8, ([3], []), ([3], []))], ret := ([2], []), ords := [] }
def K0 : C := fin (S := cx) E Try.f40.results.toList (.int .i64) .ro [] []
def c0 : Code := subC b [1]
def K1 (k : Nat) : C := outD h c0 K0
def c1 : Code := subC b [1, 1]
def K3 (k : Nat) : C := outD h c1 (K1 k)
def c2 : Code := subC b [1, 1, 1]
def K5 (k : Nat) : C := outD h c2 (K3 k)
def K6 (k : Nat) : C := seqC E h k c2 (K3 k)
def c3 : Code := subC b [1, 1, 0, 1]
def K7 (k : Nat) : C := outD h c3 (K6 k)
def K9 (k : Nat) : C := blockK 0 (K7 k)
def c4 : Code := subC b [1, 1, 0, 1, 0, 0]
def K10 (k n1 : Nat) : C := loopD E h k c4 (K9 k) n1
def c5 : Code := subC b [1, 1, 0, 1, 0, 0, 1]
def K11 (k n1 : Nat) : C := outD h c5 (K10 k n1)
def c6 : Code := subC b [1, 1, 0, 1, 0, 0, 1, 1]
def K13 (k n1 : Nat) : C := outD h c6 (K11 k n1)
def c7 : Code := subC b [1, 1, 0, 1, 0, 0, 1, 1, 1]
def K15 (k n1 : Nat) : C := outD h c7 (K13 k n1)
abbrev T2 := Int → (List (Option N1)) → Int → Int → R
abbrev T3 := Int → R
abbrev T1 := Int → (List (Option N1)) → Int → Int → R
abbrev T0 := (List (Option N1)) → R
abbrev s2 := fun x3 x6 x7 x8 => ({ vars := [(3, .v (.int .i64) .ro x3), (6, .v (.slice 35 (.ptr 1)) .ro x6), (7, .v (.int .i64) .ro x7), (8, .v (.int .i64) .ro x8)], scr := [], mems := [] } : ST cx)
def u2 (k n1 : Nat) : T2 := fun x3 x6 x7 x8 => uK (run E h k c7) (s2 x3 x6 x7 x8) (K15 k n1)
abbrev l2 (k n1 : Nat) : T2 := fun x3 x6 x7 x8 => cutK (run E h k c7) (s2 x3 x6 x7 x8) (K15 k n1)
abbrev s3 := fun x3 => ({ vars := [(3, .v (.int .i64) .ro x3)], scr := [], mems := [] } : ST cx)
def u3 (k : Nat) : T3 := fun x3 => uK (run E h k c2) (s3 x3) (K5 k)
abbrev l3 (k : Nat) : T3 := fun x3 => cutK (run E h k c2) (s3 x3) (K5 k)
abbrev s1 := fun x3 x6 x7 x8 => ({ vars := [(3, .v (.int .i64) .ro x3), (6, .v (.slice 35 (.ptr 1)) .ro x6), (7, .v (.int .i64) .ro x7), (8, .v (.int .i64) .ro x8)], scr := [], mems := [] } : ST cx)
def u1 (k n1 : Nat) : T1 := fun x3 x6 x7 x8 => uK (loopL E h k c4 (K9 k) n1) (s1 x3 x6 x7 x8) ()
abbrev l1 (k n1 : Nat) : T1 := fun x3 x6 x7 x8 => cutK (loopL E h k c4 (K9 k) n1) (s1 x3 x6 x7 x8) ()
def u0 (k : Nat) : T0 := fun x0 => runOf (S := cx) E h k Try.f40 [.val (.slice 35 (.ptr 1))] (.int .i64) .ro (x0, ())
def t2 (f1 : T1) : T2 := fun x3 x6 x7 x8 => 
  (f1 x3 x6 x7 (w64 (x8 + (1 : Int))))
theorem e2 (k n1 : Nat) : u2 k n1 = t2 (l1 k n1) := by kernel_rfl
theorem g2 (k n1 : Nat) : l2 k n1 = u2 k n1 := funext fun _ => funext fun _ => funext fun _ => funext fun _ => cut_u _ _ _
theorem d2 {x1 y1 : T1} (h1 : x1 = y1) : t2 x1 = t2 y1 := by subst h1; rfl
def p2 (k : Nat) (a1 : T1) : T2 := t2 a1
theorem o2 (k n1 : Nat) (a1 : T1) (h1 : l1 k n1 = a1) : l2 k n1 = p2 k a1 := (Eq.trans (b := u2 k n1) (g2 k n1) (Eq.trans (b := t2 (l1 k n1)) (e2 k n1) (Eq.trans (b := t2 a1) (d2 h1) (by kernel_rfl))))
def t3 : T3 := fun x3 => 
  (some (x3, ()))
theorem e3 (k : Nat) : u3 k = t3 := by kernel_rfl
theorem g3 (k : Nat) : l3 k = u3 k := funext fun _ => cut_u _ _ _
def p3 (k : Nat) : T3 := t3
theorem o3 (k : Nat) : l3 k = p3 k := (Eq.trans (b := u3 k) (g3 k) (Eq.trans (b := t3) (e3 k) (by kernel_rfl)))
def t1 (f2 : T2) (f3 : T3) : T1 := fun x3 x6 x7 x8 => 
  (iteB (decide (x8 < x7)) (withinR x8 (List.length x6) fun q1 => (iteB (!(Option.isNone (List.getD x6 q1 none))) (bindR (List.getD x6 q1 none) fun z2 => (f2 (w64 (x3 + (out1 z2).2.2.2.2.1)) x6 x7 x8)) (f2 x3 x6 x7 x8))) (f3 x3))
theorem e1 (k n1 : Nat) : u1 k (n1 + 1) = t1 (l2 k n1) (l3 k) := by kernel_rfl
theorem g1 (k n1 : Nat) : l1 k (n1 + 1) = u1 k (n1 + 1) := funext fun _ => funext fun _ => funext fun _ => funext fun _ => cut_u _ _ _
theorem d1 {x2 y2 : T2} {x3 y3 : T3} (h2 : x2 = y2) (h3 : x3 = y3) : t1 x2 x3 = t1 y2 y3 := by subst h2; subst h3; rfl
def p1 (k : Nat) : Nat → T1
  | 0 => fun _ _ _ _ => none
  | n1 + 1 => t1 (p2 k (p1 k n1)) (p3 k)
theorem o1 (k : Nat) : ∀ n1, l1 k n1 = p1 k n1 := by
  intro n1
  induction n1 with
  | zero => kernel_rfl
  | succ n1 ih => exact (Eq.trans (b := u1 k (n1 + 1)) (g1 k n1) (Eq.trans (b := t1 (l2 k n1) (l3 k)) (e1 k n1) (Eq.trans (b := t1 (p2 k (p1 k n1)) (p3 k)) (d1 (o2 k n1 (p1 k n1) ih) (o3 k)) (by kernel_rfl))))
def t0 (f1 : T1) : T0 := fun x0 => 
  (f1 (0 : Int) x0 ((List.length x0 : Nat) : Int) (0 : Int))
theorem e0 (k : Nat) : u0 k = t0 (l1 k k) := by kernel_rfl
theorem d0 {x1 y1 : T1} (h1 : x1 = y1) : t0 x1 = t0 y1 := by subst h1; rfl
def p0 (k : Nat) : T0 := t0 (p1 k k)
theorem o0 (k : Nat) : u0 k = p0 k := (Eq.trans (b := t0 (l1 k k)) (e0 k) (Eq.trans (b := t0 (p1 k k)) (d0 (o1 k k)) (by kernel_rfl)))
end tree_toks
def s_tree_toks (a : (List (Option N1)) × (Unit)) : Option ((Int) × (Unit)) := tree_toks.p0 (fuel) a.1
def F_tree_toks : FSpec cx.toNm := { ps := [.val (.slice 35 (.ptr 1))], nres := 1, rt := (.int .i64), rm := .ro, f := s_tree_toks }
theorem w_tree_toks (a : (List (Option N1)) × (Unit)) : runOf (S := cx) tree_toks.E tree_toks.h (fuel) Try.f40 F_tree_toks.ps F_tree_toks.rt F_tree_toks.rm a = F_tree_toks.f a := Eq.trans (b := tree_toks.u0 (fuel) a.1) (by kernel_rfl) (Eq.trans (b := tree_toks.p0 (fuel) a.1) (congrFun (tree_toks.o0 (fuel)) a.1) (by kernel_rfl))
theorem ok_tree_toks : FnOk Try.prog F_tree_toks 40 := fn_of (hn := tree_toks.h) (E := tree_toks.E) cxOk (tysT _ _) fs_nil follows Try.func40 (by kernel_rfl) (fun a r h => ⟨fuel, Eq.trans (w_tree_toks a) h⟩)
namespace tree_fits_1
def E : Env cx := { tys := tys, fs := fsOf [] }
abbrev R := Option ((Bool) × (Unit))
abbrev C := Exit → ST cx → R
noncomputable def b : Code := bodyC Try.f68
def h : Hint := { vs := [0, 1, 4], nil := [], cuts := [], ret := ([4], []), ords := [] }
abbrev T0 := (Option N1) → Int → R
def u0 (k : Nat) : T0 := fun x0 x1 => runOf (S := cx) E h k Try.f68 [.val (.ptr 1), .val (.int .i64)] .bool .ro (x0, x1, ())
def t0 : T0 := fun x0 x1 => 
  (bindR x0 fun z1 => (some ((decide ((out1 z1).1 = x1)), ())))
theorem e0 (k : Nat) : u0 k = t0 := by kernel_rfl
def p0 (k : Nat) : T0 := t0
theorem o0 (k : Nat) : u0 k = p0 k := (Eq.trans (b := t0) (e0 k) (by kernel_rfl))
end tree_fits_1
def s_tree_fits_1 (a : (Option N1) × ((Int) × (Unit))) : Option ((Bool) × (Unit)) := tree_fits_1.p0 (fuel) a.1 a.2.1
def F_tree_fits_1 : FSpec cx.toNm := { ps := [.val (.ptr 1), .val (.int .i64)], nres := 1, rt := .bool, rm := .ro, f := s_tree_fits_1 }
theorem w_tree_fits_1 (a : (Option N1) × ((Int) × (Unit))) : runOf (S := cx) tree_fits_1.E tree_fits_1.h (fuel) Try.f68 F_tree_fits_1.ps F_tree_fits_1.rt F_tree_fits_1.rm a = F_tree_fits_1.f a := Eq.trans (b := tree_fits_1.u0 (fuel) a.1 a.2.1) (by kernel_rfl) (Eq.trans (b := tree_fits_1.p0 (fuel) a.1 a.2.1) (congrFun (congrFun (tree_fits_1.o0 (fuel)) a.1) a.2.1) (by kernel_rfl))
theorem ok_tree_fits_1 : FnOk Try.prog F_tree_fits_1 68 := fn_of (hn := tree_fits_1.h) (E := tree_fits_1.E) cxOk (tysT _ _) fs_nil follows Try.func68 (by kernel_rfl) (fun a r h => ⟨fuel, Eq.trans (w_tree_fits_1 a) h⟩)
namespace slices_EqualFuncx
def E : Env cx := { tys := tys, fs := fsOf [(68, F_tree_fits_1)] }
abbrev R := Option ((Bool) × (Unit))
abbrev C := Exit → ST cx → R
noncomputable def b : Code := bodyC Try.f67
def h : Hint := { vs := [0, 1, 2, 6, 7, 8, 9, 15, 16, 17], nil := [], cuts := [(4, ([1, 2, 15, 16, 17], []), ([], [])), (10, ([], []), ([], []))], ret := ([6], []), ords := [] }
def K0 : C := fin (S := cx) E Try.f67.results.toList .bool .ro [] []
def c0 : Code := subC b [1]
def K1 (k : Nat) : C := outD h c0 K0
def c1 : Code := subC b [1, 1]
def K3 (k : Nat) : C := outD h c1 (K1 k)
def c4 : Code := subC b [1, 1, 1]
def K9 (k : Nat) : C := outD h c4 (K3 k)
def K10 (k : Nat) : C := seqC E h k c4 (K3 k)
def c5 : Code := subC b [1, 1, 0, 1]
def K11 (k : Nat) : C := outD h c5 (K10 k)
def K13 (k : Nat) : C := blockK 0 (K11 k)
def c6 : Code := subC b [1, 1, 0, 1, 0, 0]
abbrev T2 := R
abbrev T1 := (List (Int)) → Unit → (List (Option N1)) → Int → Int → R
abbrev T0 := (List (Option N1)) → (List (Int)) → Unit → R
abbrev s2 : ST cx := ({ vars := [], scr := [], mems := [] } : ST cx)
def u2 (k : Nat) : T2 := uK (run E h k c4) s2 (K9 k)
abbrev l2 (k : Nat) : T2 := cutK (run E h k c4) s2 (K9 k)
abbrev s1 := fun x1 x2 x15 x16 x17 => ({ vars := [(1, .v (.slice 3 (.int .i64)) .ro x1), (2, .v (.clo 68 .unit) .ro x2), (15, .v (.slice 35 (.ptr 1)) .ro x15), (16, .v (.int .i64) .ro x16), (17, .v (.int .i64) .ro x17)], scr := [], mems := [] } : ST cx)
def u1 (k n1 : Nat) : T1 := fun x1 x2 x15 x16 x17 => uK (loopL E h k c6 (K13 k) n1) (s1 x1 x2 x15 x16 x17) ()
abbrev l1 (k n1 : Nat) : T1 := fun x1 x2 x15 x16 x17 => cutK (loopL E h k c6 (K13 k) n1) (s1 x1 x2 x15 x16 x17) ()
def u0 (k : Nat) : T0 := fun x0 x1 x2 => runOf (S := cx) E h k Try.f67 [.val (.slice 35 (.ptr 1)), .val (.slice 3 (.int .i64)), .val (.clo 68 .unit)] .bool .ro (x0, x1, x2, ())
def t2 : T2 := 
  (some (true, ()))
theorem e2 (k : Nat) : u2 k = t2 := by kernel_rfl
theorem g2 (k : Nat) : l2 k = u2 k := cut_u _ _ _
def p2 (k : Nat) : T2 := t2
theorem o2 (k : Nat) : l2 k = p2 k := (Eq.trans (b := u2 k) (g2 k) (Eq.trans (b := t2) (e2 k) (by kernel_rfl)))
def t1 (f1 : T1) (f2 : T2) : T1 := fun x1 x2 x15 x16 x17 => 
  (iteB (decide (x17 < x16)) (withinR x17 (List.length x15) fun q1 => (withinR x17 (List.length x1) fun q2 => (bindR (s_tree_fits_1 ((List.getD x15 q1 none), ((List.getD x1 q2 (0 : Int)), ()))) fun r3 => (iteB (notB r3.1) (some (false, ())) (f1 x1 x2 x15 x16 (w64 (x17 + (1 : Int)))))))) f2)
theorem e1 (k n1 : Nat) : u1 k (n1 + 1) = t1 (l1 k n1) (l2 k) := by kernel_rfl
theorem g1 (k n1 : Nat) : l1 k (n1 + 1) = u1 k (n1 + 1) := funext fun _ => funext fun _ => funext fun _ => funext fun _ => funext fun _ => cut_u _ _ _
theorem d1 {x1 y1 : T1} {x2 y2 : T2} (h1 : x1 = y1) (h2 : x2 = y2) : t1 x1 x2 = t1 y1 y2 := by subst h1; subst h2; rfl
def p1 (k : Nat) : Nat → T1
  | 0 => fun _ _ _ _ _ => none
  | n1 + 1 => t1 (p1 k n1) (p2 k)
theorem o1 (k : Nat) : ∀ n1, l1 k n1 = p1 k n1 := by
  intro n1
  induction n1 with
  | zero => kernel_rfl
  | succ n1 ih => exact (Eq.trans (b := u1 k (n1 + 1)) (g1 k n1) (Eq.trans (b := t1 (l1 k n1) (l2 k)) (e1 k n1) (Eq.trans (b := t1 (p1 k n1) (p2 k)) (d1 ih (o2 k)) (by kernel_rfl))))
def t0 (f1 : T1) : T0 := fun x0 x1 x2 => 
  (iteB (!decide (((List.length x0 : Nat) : Int) = ((List.length x1 : Nat) : Int))) (some (false, ())) (f1 x1 x2 x0 ((List.length x0 : Nat) : Int) (0 : Int)))
theorem e0 (k : Nat) : u0 k = t0 (l1 k k) := by kernel_rfl
theorem d0 {x1 y1 : T1} (h1 : x1 = y1) : t0 x1 = t0 y1 := by subst h1; rfl
def p0 (k : Nat) : T0 := t0 (p1 k k)
theorem o0 (k : Nat) : u0 k = p0 k := (Eq.trans (b := t0 (l1 k k)) (e0 k) (Eq.trans (b := t0 (p1 k k)) (d0 (o1 k k)) (by kernel_rfl)))
end slices_EqualFuncx
def s_slices_EqualFuncx (a : (List (Option N1)) × ((List (Int)) × ((Unit) × (Unit)))) : Option ((Bool) × (Unit)) := slices_EqualFuncx.p0 (fuel) a.1 a.2.1 a.2.2.1
def F_slices_EqualFuncx : FSpec cx.toNm := { ps := [.val (.slice 35 (.ptr 1)), .val (.slice 3 (.int .i64)), .val (.clo 68 .unit)], nres := 1, rt := .bool, rm := .ro, f := s_slices_EqualFuncx }
theorem w_slices_EqualFuncx (a : (List (Option N1)) × ((List (Int)) × ((Unit) × (Unit)))) : runOf (S := cx) slices_EqualFuncx.E slices_EqualFuncx.h (fuel) Try.f67 F_slices_EqualFuncx.ps F_slices_EqualFuncx.rt F_slices_EqualFuncx.rm a = F_slices_EqualFuncx.f a := Eq.trans (b := slices_EqualFuncx.u0 (fuel) a.1 a.2.1 a.2.2.1) (by kernel_rfl) (Eq.trans (b := slices_EqualFuncx.p0 (fuel) a.1 a.2.1 a.2.2.1) (congrFun (congrFun (congrFun (slices_EqualFuncx.o0 (fuel)) a.1) a.2.1) a.2.2.1) (by kernel_rfl))
theorem ok_slices_EqualFuncx : FnOk Try.prog F_slices_EqualFuncx 67 := fn_of (hn := slices_EqualFuncx.h) (E := slices_EqualFuncx.E) cxOk (tysT _ _) (fs_cons ok_tree_fits_1 fs_nil) follows Try.func67 (by kernel_rfl) (fun a r h => ⟨fuel, Eq.trans (w_slices_EqualFuncx a) h⟩)
namespace tree_fits
def E : Env cx := { tys := tys, fs := fsOf [(40, F_tree_toks), (66, F_slices_Contains), (67, F_slices_EqualFuncx)] }
abbrev R := Option ((Bool) × (Unit))
abbrev C := Exit → ST cx → R
noncomputable def b : Code := bodyC Try.f41
def h : Hint := { vs := [0, 1, 2, 4, 5], nil := [], cuts := [(4, ([1, 2, 68], [2]), ([1, 2], [2])), (5, ([1, 2], [2]), ([1, 2], [2]))], ret := ([4], [2, 5]), ords := [] }
def K0 : C := fin (S := cx) E Try.f41.results.toList .bool .ro [] []
def c0 : Code := subC b [1]
def K1 (k : Nat) : C := outD h c0 K0
def c1 : Code := subC b [1, 1]
def K3 (k : Nat) : C := outD h c1 (K1 k)
def c4 : Code := subC b [1, 1, 1]
def K9 (k : Nat) : C := outD h c4 (K3 k)
def K10 (k : Nat) : C := seqC E h k c4 (K3 k)
def c5 : Code := subC b [1, 1, 0, 1]
def K11 (k : Nat) : C := outD h c5 (K10 k)
abbrev T2 := (Option N1) → D0 → R
abbrev T1 := (Option N1) → Bool → D0 → R
abbrev T0 := D0 → (Option N1) → R
abbrev s2 := fun x1 m2 => ({ vars := [(1, .v (.ptr 1) .ro x1), (2, .addr (.mem 2) [])], scr := [], mems := [(2, ⟨ty0, .ro, m2⟩)] } : ST cx)
def u2 (k : Nat) : T2 := fun x1 m2 => uK (run E h k c4) (s2 x1 m2) (K9 k)
abbrev l2 (k : Nat) : T2 := fun x1 m2 => cutK (run E h k c4) (s2 x1 m2) (K9 k)
abbrev s1 := fun x1 x68 m2 => ({ vars := [(1, .v (.ptr 1) .ro x1), (2, .addr (.mem 2) []), (68, .v .bool .ro x68)], scr := [], mems := [(2, ⟨ty0, .ro, m2⟩)] } : ST cx)
def u1 (k : Nat) : T1 := fun x1 x68 m2 => uK (run E h k c5) (s1 x1 x68 m2) (K11 k)
abbrev l1 (k : Nat) : T1 := fun x1 x68 m2 => cutK (run E h k c5) (s1 x1 x68 m2) (K11 k)
def u0 (k : Nat) : T0 := fun x0 x1 => runOf (S := cx) E h k Try.f41 [.val ty0, .val (.ptr 1)] .bool .ro (x0, x1, ())
def t2 : T2 := fun x1 m2 => 
  (bindR x1 fun z11 => (withinR ((out1 z11).2.1) (List.length m2.2.2.2.1) fun q12 => (bindR x1 fun z13 => (iteB (decide ((out1 z13).1 = (List.getD m2.2.2.2.1 q12 ((0 : Int), ([] : List (Int)))).1)) (bindR x1 fun z14 => (bindR x1 fun z15 => (bindR (s_tree_toks ((out1 z15).2.2.2.1, ())) fun r16 => (iteB (decide ((out1 z14).2.2.2.2.1 = r16.1)) (bindR x1 fun z17 => (bindR (s_slices_EqualFuncx ((out1 z17).2.2.2.1, ((List.getD m2.2.2.2.1 q12 ((0 : Int), ([] : List (Int)))).2, ((), ())))) fun r18 => (some (r18.1, ())))) (some (false, ())))))) (some (false, ()))))))
theorem e2 (k : Nat) : u2 k = t2 := by kernel_rfl
theorem g2 (k : Nat) : l2 k = u2 k := funext fun _ => funext fun _ => cut_u _ _ _
def p2 (k : Nat) : T2 := t2
theorem o2 (k : Nat) : l2 k = p2 k := (Eq.trans (b := u2 k) (g2 k) (Eq.trans (b := t2) (e2 k) (by kernel_rfl)))
def t1 (f2 : T2) : T1 := fun x1 x68 m2 => 
  (iteB x68 (some (false, ())) (f2 x1 m2))
theorem e1 (k : Nat) : u1 k = t1 (l2 k) := by kernel_rfl
theorem g1 (k : Nat) : l1 k = u1 k := funext fun _ => funext fun _ => funext fun _ => cut_u _ _ _
theorem d1 {x2 y2 : T2} (h2 : x2 = y2) : t1 x2 = t1 y2 := by subst h2; rfl
def p1 (k : Nat) : T1 := t1 (p2 k)
theorem o1 (k : Nat) : l1 k = p1 k := (Eq.trans (b := u1 k) (g1 k) (Eq.trans (b := t1 (l2 k)) (e1 k) (Eq.trans (b := t1 (p2 k)) (d1 (o2 k)) (by kernel_rfl))))
def t0 (f1 : T1) : T0 := fun x0 x1 => 
  (bindR x1 fun z1 => (iteB (decide ((out1 z1).2.1 = (-1 : Int))) (bindR x1 fun z2 => (iteB (decide ((0 : Int) ≤ (out1 z2).1)) (bindR x1 fun z3 => (iteB (decide ((out1 z3).1 < x0.2.1)) (bindR x1 fun z4 => (iteB (decide (((List.length (out1 z4).2.2.2.1 : Nat) : Int) = (0 : Int))) (bindR x1 fun z5 => (some ((decide ((out1 z5).2.2.2.2.1 = (1 : Int))), ()))) (some (false, ())))) (some (false, ())))) (some (false, ())))) (bindR x1 fun z6 => (iteB (decide ((out1 z6).2.1 < (0 : Int))) (f1 x1 true x0) (bindR x1 fun z7 => (iteB (decide (((List.length x0.2.2.2.1 : Nat) : Int) ≤ (out1 z7).2.1)) (f1 x1 true x0) (bindR x1 fun z8 => (iteB (!(decide ((out1 z8).2.2.1 = ([] : List UInt8)))) (f1 x1 true x0) (bindR x1 fun z9 => (bindR (s_slices_Contains ((out1 z9).2.2.2.1, (none, ()))) fun r10 => (f1 x1 r10.1 x0)))))))))))
theorem e0 (k : Nat) : u0 k = t0 (l1 k) := by kernel_rfl
theorem d0 {x1 y1 : T1} (h1 : x1 = y1) : t0 x1 = t0 y1 := by subst h1; rfl
def p0 (k : Nat) : T0 := t0 (p1 k)
theorem o0 (k : Nat) : u0 k = p0 k := (Eq.trans (b := t0 (l1 k)) (e0 k) (Eq.trans (b := t0 (p1 k)) (d0 (o1 k)) (by kernel_rfl)))
end tree_fits
def s_tree_fits (a : (D0) × ((Option N1) × (Unit))) : Option ((Bool) × (Unit)) := tree_fits.p0 (fuel) a.1 a.2.1
def F_tree_fits : FSpec cx.toNm := { ps := [.val ty0, .val (.ptr 1)], nres := 1, rt := .bool, rm := .ro, f := s_tree_fits }
theorem w_tree_fits (a : (D0) × ((Option N1) × (Unit))) : runOf (S := cx) tree_fits.E tree_fits.h (fuel) Try.f41 F_tree_fits.ps F_tree_fits.rt F_tree_fits.rm a = F_tree_fits.f a := Eq.trans (b := tree_fits.u0 (fuel) a.1 a.2.1) (by kernel_rfl) (Eq.trans (b := tree_fits.p0 (fuel) a.1 a.2.1) (congrFun (congrFun (tree_fits.o0 (fuel)) a.1) a.2.1) (by kernel_rfl))
theorem ok_tree_fits : FnOk Try.prog F_tree_fits 41 := fn_of (hn := tree_fits.h) (E := tree_fits.E) cxOk (tysT _ _) (fs_cons ok_tree_toks (fs_cons ok_slices_Contains (fs_cons ok_slices_EqualFuncx fs_nil))) follows Try.func41 (by kernel_rfl) (fun a r h => ⟨fuel, Eq.trans (w_tree_fits a) h⟩)
namespace tree_Right_1
def E : Env cx := { tys := tys, fs := fsOf [(41, F_tree_fits)] }
abbrev R := Option ((Bool) × (Unit))
abbrev C := Exit → ST cx → R
noncomputable def b : Code := bodyC Try.f43
def h : Hint := { vs := [0, 1, 3], nil := [], cuts := [], ret := ([3], []), ords := [] }
abbrev T0 := (Option N1) → D0 → R
def u0 (k : Nat) : T0 := fun x0 x1 => runOf (S := cx) E h k Try.f43 [.val (.ptr 1), .val (.box ty0)] .bool .ro (x0, x1, ())
def t0 : T0 := fun x0 x1 => 
  (bindR (s_tree_fits (x1, (x0, ()))) fun r1 => (some (r1.1, ())))
theorem e0 (k : Nat) : u0 k = t0 := by kernel_rfl
def p0 (k : Nat) : T0 := t0
theorem o0 (k : Nat) : u0 k = p0 k := (Eq.trans (b := t0) (e0 k) (by kernel_rfl))
end tree_Right_1
def s_tree_Right_1 (a : (Option N1) × ((D0) × (Unit))) : Option ((Bool) × (Unit)) := tree_Right_1.p0 (fuel) a.1 a.2.1
def F_tree_Right_1 : FSpec cx.toNm := { ps := [.val (.ptr 1), .val (.box ty0)], nres := 1, rt := .bool, rm := .ro, f := s_tree_Right_1 }
theorem w_tree_Right_1 (a : (Option N1) × ((D0) × (Unit))) : runOf (S := cx) tree_Right_1.E tree_Right_1.h (fuel) Try.f43 F_tree_Right_1.ps F_tree_Right_1.rt F_tree_Right_1.rm a = F_tree_Right_1.f a := Eq.trans (b := tree_Right_1.u0 (fuel) a.1 a.2.1) (by kernel_rfl) (Eq.trans (b := tree_Right_1.p0 (fuel) a.1 a.2.1) (congrFun (congrFun (tree_Right_1.o0 (fuel)) a.1) a.2.1) (by kernel_rfl))
theorem ok_tree_Right_1 : FnOk Try.prog F_tree_Right_1 43 := fn_of (hn := tree_Right_1.h) (E := tree_Right_1.E) cxOk (tysT _ _) (fs_cons ok_tree_fits fs_nil) follows Try.func43 (by kernel_rfl) (fun a r h => ⟨fuel, Eq.trans (w_tree_Right_1 a) h⟩)
def Fr_tree_all (f : ((Option N1) × (((D0) × (Unit)) × (Unit))) → Option ((Bool) × (Unit))) : FSpec cx.toNm := { ps := [.val (.ptr 1), .val (.clo 43 (.pair (.box ty0) .unit))], nres := 1, rt := .bool, rm := .ro, f := f }
def Fr_slices_ContainsFuncxxx_i1 (f : ((List (Option N1)) × ((((D0) × (Unit)) × (Unit)) × (Unit))) → Option ((Bool) × (Unit))) : FSpec cx.toNm := { ps := [.val (.slice 35 (.ptr 1)), .val (.clo 69 (.pair (.box (.clo 43 (.pair (.box ty0) .unit))) .unit))], nres := 1, rt := .bool, rm := .ro, f := f }
def Fr_slices_IndexFuncxxx_i1 (f : ((List (Option N1)) × ((((D0) × (Unit)) × (Unit)) × (Unit))) → Option ((Int) × (Unit))) : FSpec cx.toNm := { ps := [.val (.slice 35 (.ptr 1)), .val (.clo 69 (.pair (.box (.clo 43 (.pair (.box ty0) .unit))) .unit))], nres := 1, rt := (.int .i64), rm := .ro, f := f }
def Fr_tree_all_1 (f : ((Option N1) × (((D0) × (Unit)) × (Unit))) → Option ((Bool) × (Unit))) : FSpec cx.toNm := { ps := [.val (.ptr 1), .val (.box (.clo 43 (.pair (.box ty0) .unit)))], nres := 1, rt := .bool, rm := .ro, f := f }
namespace tree_all
def E (sf_tree_all : ((Option N1) × (((D0) × (Unit)) × (Unit))) → Option ((Bool) × (Unit))) (sf_slices_ContainsFuncxxx_i1 : ((List (Option N1)) × ((((D0) × (Unit)) × (Unit)) × (Unit))) → Option ((Bool) × (Unit))) (sf_slices_IndexFuncxxx_i1 : ((List (Option N1)) × ((((D0) × (Unit)) × (Unit)) × (Unit))) → Option ((Int) × (Unit))) (sf_tree_all_1 : ((Option N1) × (((D0) × (Unit)) × (Unit))) → Option ((Bool) × (Unit))) : Env cx := { tys := tys, fs := fsOf [(37, (Fr_slices_ContainsFuncxxx_i1 sf_slices_ContainsFuncxxx_i1)), (43, F_tree_Right_1)], wr := true }
abbrev R := Option ((Bool) × (Unit))
abbrev C := Exit → ST cx → R
noncomputable def b : Code := bodyC Try.f42
def h : Hint := { vs := [0, 1, 3, 4], nil := [], cuts := [], ret := ([4], [3]), ords := [], fns := [(17, [true])] }
abbrev T0 := (Option N1) → ((D0) × (Unit)) → R
def u0 (sf_tree_all : ((Option N1) × (((D0) × (Unit)) × (Unit))) → Option ((Bool) × (Unit))) (sf_slices_ContainsFuncxxx_i1 : ((List (Option N1)) × ((((D0) × (Unit)) × (Unit)) × (Unit))) → Option ((Bool) × (Unit))) (sf_slices_IndexFuncxxx_i1 : ((List (Option N1)) × ((((D0) × (Unit)) × (Unit)) × (Unit))) → Option ((Int) × (Unit))) (sf_tree_all_1 : ((Option N1) × (((D0) × (Unit)) × (Unit))) → Option ((Bool) × (Unit))) (k : Nat) : T0 := fun x0 x1 => runOf (S := cx) (E sf_tree_all sf_slices_ContainsFuncxxx_i1 sf_slices_IndexFuncxxx_i1 sf_tree_all_1) h k Try.f42 [.val (.ptr 1), .val (.clo 43 (.pair (.box ty0) .unit))] .bool .ro (x0, x1, ())
def t0 (sf_tree_all : ((Option N1) × (((D0) × (Unit)) × (Unit))) → Option ((Bool) × (Unit))) (sf_slices_ContainsFuncxxx_i1 : ((List (Option N1)) × ((((D0) × (Unit)) × (Unit)) × (Unit))) → Option ((Bool) × (Unit))) (sf_slices_IndexFuncxxx_i1 : ((List (Option N1)) × ((((D0) × (Unit)) × (Unit)) × (Unit))) → Option ((Int) × (Unit))) (sf_tree_all_1 : ((Option N1) × (((D0) × (Unit)) × (Unit))) → Option ((Bool) × (Unit))) : T0 := fun x0 x1 => 
  (iteB (!(Option.isNone x0)) (bindR (s_tree_Right_1 (x0, (x1.1, ()))) fun r1 => (iteB r1.1 (bindR x0 fun z2 => (bindR (sf_slices_ContainsFuncxxx_i1 ((out1 z2).2.2.2.1, ((x1, ()), ()))) fun r3 => (some ((notB r3.1), ())))) (some (false, ())))) (some (false, ())))
theorem e0 (sf_tree_all : ((Option N1) × (((D0) × (Unit)) × (Unit))) → Option ((Bool) × (Unit))) (sf_slices_ContainsFuncxxx_i1 : ((List (Option N1)) × ((((D0) × (Unit)) × (Unit)) × (Unit))) → Option ((Bool) × (Unit))) (sf_slices_IndexFuncxxx_i1 : ((List (Option N1)) × ((((D0) × (Unit)) × (Unit)) × (Unit))) → Option ((Int) × (Unit))) (sf_tree_all_1 : ((Option N1) × (((D0) × (Unit)) × (Unit))) → Option ((Bool) × (Unit))) (k : Nat) : u0 sf_tree_all sf_slices_ContainsFuncxxx_i1 sf_slices_IndexFuncxxx_i1 sf_tree_all_1 k = t0 sf_tree_all sf_slices_ContainsFuncxxx_i1 sf_slices_IndexFuncxxx_i1 sf_tree_all_1 := by kernel_rfl
def p0 (sf_tree_all : ((Option N1) × (((D0) × (Unit)) × (Unit))) → Option ((Bool) × (Unit))) (sf_slices_ContainsFuncxxx_i1 : ((List (Option N1)) × ((((D0) × (Unit)) × (Unit)) × (Unit))) → Option ((Bool) × (Unit))) (sf_slices_IndexFuncxxx_i1 : ((List (Option N1)) × ((((D0) × (Unit)) × (Unit)) × (Unit))) → Option ((Int) × (Unit))) (sf_tree_all_1 : ((Option N1) × (((D0) × (Unit)) × (Unit))) → Option ((Bool) × (Unit))) (k : Nat) : T0 := t0 sf_tree_all sf_slices_ContainsFuncxxx_i1 sf_slices_IndexFuncxxx_i1 sf_tree_all_1
theorem o0 (sf_tree_all : ((Option N1) × (((D0) × (Unit)) × (Unit))) → Option ((Bool) × (Unit))) (sf_slices_ContainsFuncxxx_i1 : ((List (Option N1)) × ((((D0) × (Unit)) × (Unit)) × (Unit))) → Option ((Bool) × (Unit))) (sf_slices_IndexFuncxxx_i1 : ((List (Option N1)) × ((((D0) × (Unit)) × (Unit)) × (Unit))) → Option ((Int) × (Unit))) (sf_tree_all_1 : ((Option N1) × (((D0) × (Unit)) × (Unit))) → Option ((Bool) × (Unit))) (k : Nat) : u0 sf_tree_all sf_slices_ContainsFuncxxx_i1 sf_slices_IndexFuncxxx_i1 sf_tree_all_1 k = p0 sf_tree_all sf_slices_ContainsFuncxxx_i1 sf_slices_IndexFuncxxx_i1 sf_tree_all_1 k := (Eq.trans (b := t0 sf_tree_all sf_slices_ContainsFuncxxx_i1 sf_slices_IndexFuncxxx_i1 sf_tree_all_1) (e0 sf_tree_all sf_slices_ContainsFuncxxx_i1 sf_slices_IndexFuncxxx_i1 sf_tree_all_1 k) (by kernel_rfl))
end tree_all
namespace slices_ContainsFuncxxx_i1
def E (sf_tree_all : ((Option N1) × (((D0) × (Unit)) × (Unit))) → Option ((Bool) × (Unit))) (sf_slices_ContainsFuncxxx_i1 : ((List (Option N1)) × ((((D0) × (Unit)) × (Unit)) × (Unit))) → Option ((Bool) × (Unit))) (sf_slices_IndexFuncxxx_i1 : ((List (Option N1)) × ((((D0) × (Unit)) × (Unit)) × (Unit))) → Option ((Int) × (Unit))) (sf_tree_all_1 : ((Option N1) × (((D0) × (Unit)) × (Unit))) → Option ((Bool) × (Unit))) : Env cx := { tys := tys, fs := fsOf [(65, (Fr_slices_IndexFuncxxx_i1 sf_slices_IndexFuncxxx_i1))] }
abbrev R := Option ((Bool) × (Unit))
abbrev C := Exit → ST cx → R
noncomputable def b : Code := bodyC Try.f37
def h : Hint := { vs := [0, 1, 4], nil := [], cuts := [], ret := ([4], []), ords := [] }
abbrev T0 := (List (Option N1)) → (((D0) × (Unit)) × (Unit)) → R
def u0 (sf_tree_all : ((Option N1) × (((D0) × (Unit)) × (Unit))) → Option ((Bool) × (Unit))) (sf_slices_ContainsFuncxxx_i1 : ((List (Option N1)) × ((((D0) × (Unit)) × (Unit)) × (Unit))) → Option ((Bool) × (Unit))) (sf_slices_IndexFuncxxx_i1 : ((List (Option N1)) × ((((D0) × (Unit)) × (Unit)) × (Unit))) → Option ((Int) × (Unit))) (sf_tree_all_1 : ((Option N1) × (((D0) × (Unit)) × (Unit))) → Option ((Bool) × (Unit))) (k : Nat) : T0 := fun x0 x1 => runOf (S := cx) (E sf_tree_all sf_slices_ContainsFuncxxx_i1 sf_slices_IndexFuncxxx_i1 sf_tree_all_1) h k Try.f37 [.val (.slice 35 (.ptr 1)), .val (.clo 69 (.pair (.box (.clo 43 (.pair (.box ty0) .unit))) .unit))] .bool .ro (x0, x1, ())
def t0 (sf_tree_all : ((Option N1) × (((D0) × (Unit)) × (Unit))) → Option ((Bool) × (Unit))) (sf_slices_ContainsFuncxxx_i1 : ((List (Option N1)) × ((((D0) × (Unit)) × (Unit)) × (Unit))) → Option ((Bool) × (Unit))) (sf_slices_IndexFuncxxx_i1 : ((List (Option N1)) × ((((D0) × (Unit)) × (Unit)) × (Unit))) → Option ((Int) × (Unit))) (sf_tree_all_1 : ((Option N1) × (((D0) × (Unit)) × (Unit))) → Option ((Bool) × (Unit))) : T0 := fun x0 x1 => 
  (bindR (sf_slices_IndexFuncxxx_i1 (x0, (x1, ()))) fun r1 => (some ((decide ((0 : Int) ≤ r1.1)), ())))
theorem e0 (sf_tree_all : ((Option N1) × (((D0) × (Unit)) × (Unit))) → Option ((Bool) × (Unit))) (sf_slices_ContainsFuncxxx_i1 : ((List (Option N1)) × ((((D0) × (Unit)) × (Unit)) × (Unit))) → Option ((Bool) × (Unit))) (sf_slices_IndexFuncxxx_i1 : ((List (Option N1)) × ((((D0) × (Unit)) × (Unit)) × (Unit))) → Option ((Int) × (Unit))) (sf_tree_all_1 : ((Option N1) × (((D0) × (Unit)) × (Unit))) → Option ((Bool) × (Unit))) (k : Nat) : u0 sf_tree_all sf_slices_ContainsFuncxxx_i1 sf_slices_IndexFuncxxx_i1 sf_tree_all_1 k = t0 sf_tree_all sf_slices_ContainsFuncxxx_i1 sf_slices_IndexFuncxxx_i1 sf_tree_all_1 := by kernel_rfl
def p0 (sf_tree_all : ((Option N1) × (((D0) × (Unit)) × (Unit))) → Option ((Bool) × (Unit))) (sf_slices_ContainsFuncxxx_i1 : ((List (Option N1)) × ((((D0) × (Unit)) × (Unit)) × (Unit))) → Option ((Bool) × (Unit))) (sf_slices_IndexFuncxxx_i1 : ((List (Option N1)) × ((((D0) × (Unit)) × (Unit)) × (Unit))) → Option ((Int) × (Unit))) (sf_tree_all_1 : ((Option N1) × (((D0) × (Unit)) × (Unit))) → Option ((Bool) × (Unit))) (k : Nat) : T0 := t0 sf_tree_all sf_slices_ContainsFuncxxx_i1 sf_slices_IndexFuncxxx_i1 sf_tree_all_1
theorem o0 (sf_tree_all : ((Option N1) × (((D0) × (Unit)) × (Unit))) → Option ((Bool) × (Unit))) (sf_slices_ContainsFuncxxx_i1 : ((List (Option N1)) × ((((D0) × (Unit)) × (Unit)) × (Unit))) → Option ((Bool) × (Unit))) (sf_slices_IndexFuncxxx_i1 : ((List (Option N1)) × ((((D0) × (Unit)) × (Unit)) × (Unit))) → Option ((Int) × (Unit))) (sf_tree_all_1 : ((Option N1) × (((D0) × (Unit)) × (Unit))) → Option ((Bool) × (Unit))) (k : Nat) : u0 sf_tree_all sf_slices_ContainsFuncxxx_i1 sf_slices_IndexFuncxxx_i1 sf_tree_all_1 k = p0 sf_tree_all sf_slices_ContainsFuncxxx_i1 sf_slices_IndexFuncxxx_i1 sf_tree_all_1 k := (Eq.trans (b := t0 sf_tree_all sf_slices_ContainsFuncxxx_i1 sf_slices_IndexFuncxxx_i1 sf_tree_all_1) (e0 sf_tree_all sf_slices_ContainsFuncxxx_i1 sf_slices_IndexFuncxxx_i1 sf_tree_all_1 k) (by kernel_rfl))
end slices_ContainsFuncxxx_i1
namespace slices_IndexFuncxxx_i1
def E (sf_tree_all : ((Option N1) × (((D0) × (Unit)) × (Unit))) → Option ((Bool) × (Unit))) (sf_slices_ContainsFuncxxx_i1 : ((List (Option N1)) × ((((D0) × (Unit)) × (Unit)) × (Unit))) → Option ((Bool) × (Unit))) (sf_slices_IndexFuncxxx_i1 : ((List (Option N1)) × ((((D0) × (Unit)) × (Unit)) × (Unit))) → Option ((Int) × (Unit))) (sf_tree_all_1 : ((Option N1) × (((D0) × (Unit)) × (Unit))) → Option ((Bool) × (Unit))) : Env cx := { tys := tys, fs := fsOf [(69, (Fr_tree_all_1 sf_tree_all_1))] }
abbrev R := Option ((Int) × (Unit))
abbrev C := Exit → ST cx → R
noncomputable def b : Code := bodyC Try.f65
def h : Hint := { vs := [0, 1, 4, 5, 7, 8], nil := [], cuts := [(2, ([0, 1, 7, 8], []), ([], [])), (7, ([], []), ([], []))], ret := ([4], []), ords := [] }
def K0 (sf_tree_all : ((Option N1) × (((D0) × (Unit)) × (Unit))) → Option ((Bool) × (Unit))) (sf_slices_ContainsFuncxxx_i1 : ((List (Option N1)) × ((((D0) × (Unit)) × (Unit)) × (Unit))) → Option ((Bool) × (Unit))) (sf_slices_IndexFuncxxx_i1 : ((List (Option N1)) × ((((D0) × (Unit)) × (Unit)) × (Unit))) → Option ((Int) × (Unit))) (sf_tree_all_1 : ((Option N1) × (((D0) × (Unit)) × (Unit))) → Option ((Bool) × (Unit))) : C := fin (S := cx) (E sf_tree_all sf_slices_ContainsFuncxxx_i1 sf_slices_IndexFuncxxx_i1 sf_tree_all_1) Try.f65.results.toList (.int .i64) .ro [] []
def c0 : Code := subC b [1]
def K1 (sf_tree_all : ((Option N1) × (((D0) × (Unit)) × (Unit))) → Option ((Bool) × (Unit))) (sf_slices_ContainsFuncxxx_i1 : ((List (Option N1)) × ((((D0) × (Unit)) × (Unit)) × (Unit))) → Option ((Bool) × (Unit))) (sf_slices_IndexFuncxxx_i1 : ((List (Option N1)) × ((((D0) × (Unit)) × (Unit)) × (Unit))) → Option ((Int) × (Unit))) (sf_tree_all_1 : ((Option N1) × (((D0) × (Unit)) × (Unit))) → Option ((Bool) × (Unit))) (k : Nat) : C := outD h c0 (K0 sf_tree_all sf_slices_ContainsFuncxxx_i1 sf_slices_IndexFuncxxx_i1 sf_tree_all_1)
def c1 : Code := subC b [1, 1]
def K3 (sf_tree_all : ((Option N1) × (((D0) × (Unit)) × (Unit))) → Option ((Bool) × (Unit))) (sf_slices_ContainsFuncxxx_i1 : ((List (Option N1)) × ((((D0) × (Unit)) × (Unit)) × (Unit))) → Option ((Bool) × (Unit))) (sf_slices_IndexFuncxxx_i1 : ((List (Option N1)) × ((((D0) × (Unit)) × (Unit)) × (Unit))) → Option ((Int) × (Unit))) (sf_tree_all_1 : ((Option N1) × (((D0) × (Unit)) × (Unit))) → Option ((Bool) × (Unit))) (k : Nat) : C := outD h c1 (K1 sf_tree_all sf_slices_ContainsFuncxxx_i1 sf_slices_IndexFuncxxx_i1 sf_tree_all_1 k)
def K4 (sf_tree_all : ((Option N1) × (((D0) × (Unit)) × (Unit))) → Option ((Bool) × (Unit))) (sf_slices_ContainsFuncxxx_i1 : ((List (Option N1)) × ((((D0) × (Unit)) × (Unit)) × (Unit))) → Option ((Bool) × (Unit))) (sf_slices_IndexFuncxxx_i1 : ((List (Option N1)) × ((((D0) × (Unit)) × (Unit)) × (Unit))) → Option ((Int) × (Unit))) (sf_tree_all_1 : ((Option N1) × (((D0) × (Unit)) × (Unit))) → Option ((Bool) × (Unit))) (k : Nat) : C := seqC (E sf_tree_all sf_slices_ContainsFuncxxx_i1 sf_slices_IndexFuncxxx_i1 sf_tree_all_1) h k c1 (K1 sf_tree_all sf_slices_ContainsFuncxxx_i1 sf_slices_IndexFuncxxx_i1 sf_tree_all_1 k)
def c2 : Code := subC b [1, 0, 1]
def K5 (sf_tree_all : ((Option N1) × (((D0) × (Unit)) × (Unit))) → Option ((Bool) × (Unit))) (sf_slices_ContainsFuncxxx_i1 : ((List (Option N1)) × ((((D0) × (Unit)) × (Unit)) × (Unit))) → Option ((Bool) × (Unit))) (sf_slices_IndexFuncxxx_i1 : ((List (Option N1)) × ((((D0) × (Unit)) × (Unit)) × (Unit))) → Option ((Int) × (Unit))) (sf_tree_all_1 : ((Option N1) × (((D0) × (Unit)) × (Unit))) → Option ((Bool) × (Unit))) (k : Nat) : C := outD h c2 (K4 sf_tree_all sf_slices_ContainsFuncxxx_i1 sf_slices_IndexFuncxxx_i1 sf_tree_all_1 k)
def K7 (sf_tree_all : ((Option N1) × (((D0) × (Unit)) × (Unit))) → Option ((Bool) × (Unit))) (sf_slices_ContainsFuncxxx_i1 : ((List (Option N1)) × ((((D0) × (Unit)) × (Unit)) × (Unit))) → Option ((Bool) × (Unit))) (sf_slices_IndexFuncxxx_i1 : ((List (Option N1)) × ((((D0) × (Unit)) × (Unit)) × (Unit))) → Option ((Int) × (Unit))) (sf_tree_all_1 : ((Option N1) × (((D0) × (Unit)) × (Unit))) → Option ((Bool) × (Unit))) (k : Nat) : C := blockK 0 (K5 sf_tree_all sf_slices_ContainsFuncxxx_i1 sf_slices_IndexFuncxxx_i1 sf_tree_all_1 k)
def c3 : Code := subC b [1, 0, 1, 0, 0]
abbrev T2 := R
abbrev T1 := (List (Option N1)) → (((D0) × (Unit)) × (Unit)) → Int → Int → R
abbrev T0 := (List (Option N1)) → (((D0) × (Unit)) × (Unit)) → R
abbrev s2 : ST cx := ({ vars := [], scr := [], mems := [] } : ST cx)
def u2 (sf_tree_all : ((Option N1) × (((D0) × (Unit)) × (Unit))) → Option ((Bool) × (Unit))) (sf_slices_ContainsFuncxxx_i1 : ((List (Option N1)) × ((((D0) × (Unit)) × (Unit)) × (Unit))) → Option ((Bool) × (Unit))) (sf_slices_IndexFuncxxx_i1 : ((List (Option N1)) × ((((D0) × (Unit)) × (Unit)) × (Unit))) → Option ((Int) × (Unit))) (sf_tree_all_1 : ((Option N1) × (((D0) × (Unit)) × (Unit))) → Option ((Bool) × (Unit))) (k : Nat) : T2 := uK (run (E sf_tree_all sf_slices_ContainsFuncxxx_i1 sf_slices_IndexFuncxxx_i1 sf_tree_all_1) h k c1) s2 (K3 sf_tree_all sf_slices_ContainsFuncxxx_i1 sf_slices_IndexFuncxxx_i1 sf_tree_all_1 k)
abbrev l2 (sf_tree_all : ((Option N1) × (((D0) × (Unit)) × (Unit))) → Option ((Bool) × (Unit))) (sf_slices_ContainsFuncxxx_i1 : ((List (Option N1)) × ((((D0) × (Unit)) × (Unit)) × (Unit))) → Option ((Bool) × (Unit))) (sf_slices_IndexFuncxxx_i1 : ((List (Option N1)) × ((((D0) × (Unit)) × (Unit)) × (Unit))) → Option ((Int) × (Unit))) (sf_tree_all_1 : ((Option N1) × (((D0) × (Unit)) × (Unit))) → Option ((Bool) × (Unit))) (k : Nat) : T2 := cutK (run (E sf_tree_all sf_slices_ContainsFuncxxx_i1 sf_slices_IndexFuncxxx_i1 sf_tree_all_1) h k c1) s2 (K3 sf_tree_all sf_slices_ContainsFuncxxx_i1 sf_slices_IndexFuncxxx_i1 sf_tree_all_1 k)
abbrev s1 := fun x0 x1 x7 x8 => ({ vars := [(0, .v (.slice 35 (.ptr 1)) .ro x0), (1, .v (.clo 69 (.pair (.box (.clo 43 (.pair (.box ty0) .unit))) .unit)) .ro x1), (7, .v (.int .i64) .ro x7), (8, .v (.int .i64) .ro x8)], scr := [], mems := [] } : ST cx)
def u1 (sf_tree_all : ((Option N1) × (((D0) × (Unit)) × (Unit))) → Option ((Bool) × (Unit))) (sf_slices_ContainsFuncxxx_i1 : ((List (Option N1)) × ((((D0) × (Unit)) × (Unit)) × (Unit))) → Option ((Bool) × (Unit))) (sf_slices_IndexFuncxxx_i1 : ((List (Option N1)) × ((((D0) × (Unit)) × (Unit)) × (Unit))) → Option ((Int) × (Unit))) (sf_tree_all_1 : ((Option N1) × (((D0) × (Unit)) × (Unit))) → Option ((Bool) × (Unit))) (k n1 : Nat) : T1 := fun x0 x1 x7 x8 => uK (loopL (E sf_tree_all sf_slices_ContainsFuncxxx_i1 sf_slices_IndexFuncxxx_i1 sf_tree_all_1) h k c3 (K7 sf_tree_all sf_slices_ContainsFuncxxx_i1 sf_slices_IndexFuncxxx_i1 sf_tree_all_1 k) n1) (s1 x0 x1 x7 x8) ()
abbrev l1 (sf_tree_all : ((Option N1) × (((D0) × (Unit)) × (Unit))) → Option ((Bool) × (Unit))) (sf_slices_ContainsFuncxxx_i1 : ((List (Option N1)) × ((((D0) × (Unit)) × (Unit)) × (Unit))) → Option ((Bool) × (Unit))) (sf_slices_IndexFuncxxx_i1 : ((List (Option N1)) × ((((D0) × (Unit)) × (Unit)) × (Unit))) → Option ((Int) × (Unit))) (sf_tree_all_1 : ((Option N1) × (((D0) × (Unit)) × (Unit))) → Option ((Bool) × (Unit))) (k n1 : Nat) : T1 := fun x0 x1 x7 x8 => cutK (loopL (E sf_tree_all sf_slices_ContainsFuncxxx_i1 sf_slices_IndexFuncxxx_i1 sf_tree_all_1) h k c3 (K7 sf_tree_all sf_slices_ContainsFuncxxx_i1 sf_slices_IndexFuncxxx_i1 sf_tree_all_1 k) n1) (s1 x0 x1 x7 x8) ()
def u0 (sf_tree_all : ((Option N1) × (((D0) × (Unit)) × (Unit))) → Option ((Bool) × (Unit))) (sf_slices_ContainsFuncxxx_i1 : ((List (Option N1)) × ((((D0) × (Unit)) × (Unit)) × (Unit))) → Option ((Bool) × (Unit))) (sf_slices_IndexFuncxxx_i1 : ((List (Option N1)) × ((((D0) × (Unit)) × (Unit)) × (Unit))) → Option ((Int) × (Unit))) (sf_tree_all_1 : ((Option N1) × (((D0) × (Unit)) × (Unit))) → Option ((Bool) × (Unit))) (k : Nat) : T0 := fun x0 x1 => runOf (S := cx) (E sf_tree_all sf_slices_ContainsFuncxxx_i1 sf_slices_IndexFuncxxx_i1 sf_tree_all_1) h k Try.f65 [.val (.slice 35 (.ptr 1)), .val (.clo 69 (.pair (.box (.clo 43 (.pair (.box ty0) .unit))) .unit))] (.int .i64) .ro (x0, x1, ())
def t2 (sf_tree_all : ((Option N1) × (((D0) × (Unit)) × (Unit))) → Option ((Bool) × (Unit))) (sf_slices_ContainsFuncxxx_i1 : ((List (Option N1)) × ((((D0) × (Unit)) × (Unit)) × (Unit))) → Option ((Bool) × (Unit))) (sf_slices_IndexFuncxxx_i1 : ((List (Option N1)) × ((((D0) × (Unit)) × (Unit)) × (Unit))) → Option ((Int) × (Unit))) (sf_tree_all_1 : ((Option N1) × (((D0) × (Unit)) × (Unit))) → Option ((Bool) × (Unit))) : T2 := 
  (some ((-1 : Int), ()))
theorem e2 (sf_tree_all : ((Option N1) × (((D0) × (Unit)) × (Unit))) → Option ((Bool) × (Unit))) (sf_slices_ContainsFuncxxx_i1 : ((List (Option N1)) × ((((D0) × (Unit)) × (Unit)) × (Unit))) → Option ((Bool) × (Unit))) (sf_slices_IndexFuncxxx_i1 : ((List (Option N1)) × ((((D0) × (Unit)) × (Unit)) × (Unit))) → Option ((Int) × (Unit))) (sf_tree_all_1 : ((Option N1) × (((D0) × (Unit)) × (Unit))) → Option ((Bool) × (Unit))) (k : Nat) : u2 sf_tree_all sf_slices_ContainsFuncxxx_i1 sf_slices_IndexFuncxxx_i1 sf_tree_all_1 k = t2 sf_tree_all sf_slices_ContainsFuncxxx_i1 sf_slices_IndexFuncxxx_i1 sf_tree_all_1 := by kernel_rfl
theorem g2 (sf_tree_all : ((Option N1) × (((D0) × (Unit)) × (Unit))) → Option ((Bool) × (Unit))) (sf_slices_ContainsFuncxxx_i1 : ((List (Option N1)) × ((((D0) × (Unit)) × (Unit)) × (Unit))) → Option ((Bool) × (Unit))) (sf_slices_IndexFuncxxx_i1 : ((List (Option N1)) × ((((D0) × (Unit)) × (Unit)) × (Unit))) → Option ((Int) × (Unit))) (sf_tree_all_1 : ((Option N1) × (((D0) × (Unit)) × (Unit))) → Option ((Bool) × (Unit))) (k : Nat) : l2 sf_tree_all sf_slices_ContainsFuncxxx_i1 sf_slices_IndexFuncxxx_i1 sf_tree_all_1 k = u2 sf_tree_all sf_slices_ContainsFuncxxx_i1 sf_slices_IndexFuncxxx_i1 sf_tree_all_1 k := cut_u _ _ _
def p2 (sf_tree_all : ((Option N1) × (((D0) × (Unit)) × (Unit))) → Option ((Bool) × (Unit))) (sf_slices_ContainsFuncxxx_i1 : ((List (Option N1)) × ((((D0) × (Unit)) × (Unit)) × (Unit))) → Option ((Bool) × (Unit))) (sf_slices_IndexFuncxxx_i1 : ((List (Option N1)) × ((((D0) × (Unit)) × (Unit)) × (Unit))) → Option ((Int) × (Unit))) (sf_tree_all_1 : ((Option N1) × (((D0) × (Unit)) × (Unit))) → Option ((Bool) × (Unit))) (k : Nat) : T2 := t2 sf_tree_all sf_slices_ContainsFuncxxx_i1 sf_slices_IndexFuncxxx_i1 sf_tree_all_1
theorem o2 (sf_tree_all : ((Option N1) × (((D0) × (Unit)) × (Unit))) → Option ((Bool) × (Unit))) (sf_slices_ContainsFuncxxx_i1 : ((List (Option N1)) × ((((D0) × (Unit)) × (Unit)) × (Unit))) → Option ((Bool) × (Unit))) (sf_slices_IndexFuncxxx_i1 : ((List (Option N1)) × ((((D0) × (Unit)) × (Unit)) × (Unit))) → Option ((Int) × (Unit))) (sf_tree_all_1 : ((Option N1) × (((D0) × (Unit)) × (Unit))) → Option ((Bool) × (Unit))) (k : Nat) : l2 sf_tree_all sf_slices_ContainsFuncxxx_i1 sf_slices_IndexFuncxxx_i1 sf_tree_all_1 k = p2 sf_tree_all sf_slices_ContainsFuncxxx_i1 sf_slices_IndexFuncxxx_i1 sf_tree_all_1 k := (Eq.trans (b := u2 sf_tree_all sf_slices_ContainsFuncxxx_i1 sf_slices_IndexFuncxxx_i1 sf_tree_all_1 k) (g2 sf_tree_all sf_slices_ContainsFuncxxx_i1 sf_slices_IndexFuncxxx_i1 sf_tree_all_1 k) (Eq.trans (b := t2 sf_tree_all sf_slices_ContainsFuncxxx_i1 sf_slices_IndexFuncxxx_i1 sf_tree_all_1) (e2 sf_tree_all sf_slices_ContainsFuncxxx_i1 sf_slices_IndexFuncxxx_i1 sf_tree_all_1 k) (by kernel_rfl)))
def t1 (sf_tree_all : ((Option N1) × (((D0) × (Unit)) × (Unit))) → Option ((Bool) × (Unit))) (sf_slices_ContainsFuncxxx_i1 : ((List (Option N1)) × ((((D0) × (Unit)) × (Unit)) × (Unit))) → Option ((Bool) × (Unit))) (sf_slices_IndexFuncxxx_i1 : ((List (Option N1)) × ((((D0) × (Unit)) × (Unit)) × (Unit))) → Option ((Int) × (Unit))) (sf_tree_all_1 : ((Option N1) × (((D0) × (Unit)) × (Unit))) → Option ((Bool) × (Unit))) (f1 : T1) (f2 : T2) : T1 := fun x0 x1 x7 x8 => 
  (iteB (decide (x8 < x7)) (withinR x8 (List.length x0) fun q1 => (bindR (sf_tree_all_1 ((List.getD x0 q1 none), (x1.1, ()))) fun r2 => (iteB r2.1 (some (x8, ())) (f1 x0 x1 x7 (w64 (x8 + (1 : Int))))))) f2)
theorem e1 (sf_tree_all : ((Option N1) × (((D0) × (Unit)) × (Unit))) → Option ((Bool) × (Unit))) (sf_slices_ContainsFuncxxx_i1 : ((List (Option N1)) × ((((D0) × (Unit)) × (Unit)) × (Unit))) → Option ((Bool) × (Unit))) (sf_slices_IndexFuncxxx_i1 : ((List (Option N1)) × ((((D0) × (Unit)) × (Unit)) × (Unit))) → Option ((Int) × (Unit))) (sf_tree_all_1 : ((Option N1) × (((D0) × (Unit)) × (Unit))) → Option ((Bool) × (Unit))) (k n1 : Nat) : u1 sf_tree_all sf_slices_ContainsFuncxxx_i1 sf_slices_IndexFuncxxx_i1 sf_tree_all_1 k (n1 + 1) = t1 sf_tree_all sf_slices_ContainsFuncxxx_i1 sf_slices_IndexFuncxxx_i1 sf_tree_all_1 (l1 sf_tree_all sf_slices_ContainsFuncxxx_i1 sf_slices_IndexFuncxxx_i1 sf_tree_all_1 k n1) (l2 sf_tree_all sf_slices_ContainsFuncxxx_i1 sf_slices_IndexFuncxxx_i1 sf_tree_all_1 k) := by kernel_rfl
theorem g1 (sf_tree_all : ((Option N1) × (((D0) × (Unit)) × (Unit))) → Option ((Bool) × (Unit))) (sf_slices_ContainsFuncxxx_i1 : ((List (Option N1)) × ((((D0) × (Unit)) × (Unit)) × (Unit))) → Option ((Bool) × (Unit))) (sf_slices_IndexFuncxxx_i1 : ((List (Option N1)) × ((((D0) × (Unit)) × (Unit)) × (Unit))) → Option ((Int) × (Unit))) (sf_tree_all_1 : ((Option N1) × (((D0) × (Unit)) × (Unit))) → Option ((Bool) × (Unit))) (k n1 : Nat) : l1 sf_tree_all sf_slices_ContainsFuncxxx_i1 sf_slices_IndexFuncxxx_i1 sf_tree_all_1 k (n1 + 1) = u1 sf_tree_all sf_slices_ContainsFuncxxx_i1 sf_slices_IndexFuncxxx_i1 sf_tree_all_1 k (n1 + 1) := funext fun _ => funext fun _ => funext fun _ => funext fun _ => cut_u _ _ _
theorem d1 (sf_tree_all : ((Option N1) × (((D0) × (Unit)) × (Unit))) → Option ((Bool) × (Unit))) (sf_slices_ContainsFuncxxx_i1 : ((List (Option N1)) × ((((D0) × (Unit)) × (Unit)) × (Unit))) → Option ((Bool) × (Unit))) (sf_slices_IndexFuncxxx_i1 : ((List (Option N1)) × ((((D0) × (Unit)) × (Unit)) × (Unit))) → Option ((Int) × (Unit))) (sf_tree_all_1 : ((Option N1) × (((D0) × (Unit)) × (Unit))) → Option ((Bool) × (Unit))) {x1 y1 : T1} {x2 y2 : T2} (h1 : x1 = y1) (h2 : x2 = y2) : t1 sf_tree_all sf_slices_ContainsFuncxxx_i1 sf_slices_IndexFuncxxx_i1 sf_tree_all_1 x1 x2 = t1 sf_tree_all sf_slices_ContainsFuncxxx_i1 sf_slices_IndexFuncxxx_i1 sf_tree_all_1 y1 y2 := by subst h1; subst h2; rfl
def p1 (sf_tree_all : ((Option N1) × (((D0) × (Unit)) × (Unit))) → Option ((Bool) × (Unit))) (sf_slices_ContainsFuncxxx_i1 : ((List (Option N1)) × ((((D0) × (Unit)) × (Unit)) × (Unit))) → Option ((Bool) × (Unit))) (sf_slices_IndexFuncxxx_i1 : ((List (Option N1)) × ((((D0) × (Unit)) × (Unit)) × (Unit))) → Option ((Int) × (Unit))) (sf_tree_all_1 : ((Option N1) × (((D0) × (Unit)) × (Unit))) → Option ((Bool) × (Unit))) (k : Nat) : Nat → T1
  | 0 => fun _ _ _ _ => none
  | n1 + 1 => t1 sf_tree_all sf_slices_ContainsFuncxxx_i1 sf_slices_IndexFuncxxx_i1 sf_tree_all_1 (p1 sf_tree_all sf_slices_ContainsFuncxxx_i1 sf_slices_IndexFuncxxx_i1 sf_tree_all_1 k n1) (p2 sf_tree_all sf_slices_ContainsFuncxxx_i1 sf_slices_IndexFuncxxx_i1 sf_tree_all_1 k)
theorem o1 (sf_tree_all : ((Option N1) × (((D0) × (Unit)) × (Unit))) → Option ((Bool) × (Unit))) (sf_slices_ContainsFuncxxx_i1 : ((List (Option N1)) × ((((D0) × (Unit)) × (Unit)) × (Unit))) → Option ((Bool) × (Unit))) (sf_slices_IndexFuncxxx_i1 : ((List (Option N1)) × ((((D0) × (Unit)) × (Unit)) × (Unit))) → Option ((Int) × (Unit))) (sf_tree_all_1 : ((Option N1) × (((D0) × (Unit)) × (Unit))) → Option ((Bool) × (Unit))) (k : Nat) : ∀ n1, l1 sf_tree_all sf_slices_ContainsFuncxxx_i1 sf_slices_IndexFuncxxx_i1 sf_tree_all_1 k n1 = p1 sf_tree_all sf_slices_ContainsFuncxxx_i1 sf_slices_IndexFuncxxx_i1 sf_tree_all_1 k n1 := by
  intro n1
  induction n1 with
  | zero => kernel_rfl
  | succ n1 ih => exact (Eq.trans (b := u1 sf_tree_all sf_slices_ContainsFuncxxx_i1 sf_slices_IndexFuncxxx_i1 sf_tree_all_1 k (n1 + 1)) (g1 sf_tree_all sf_slices_ContainsFuncxxx_i1 sf_slices_IndexFuncxxx_i1 sf_tree_all_1 k n1) (Eq.trans (b := t1 sf_tree_all sf_slices_ContainsFuncxxx_i1 sf_slices_IndexFuncxxx_i1 sf_tree_all_1 (l1 sf_tree_all sf_slices_ContainsFuncxxx_i1 sf_slices_IndexFuncxxx_i1 sf_tree_all_1 k n1) (l2 sf_tree_all sf_slices_ContainsFuncxxx_i1 sf_slices_IndexFuncxxx_i1 sf_tree_all_1 k)) (e1 sf_tree_all sf_slices_ContainsFuncxxx_i1 sf_slices_IndexFuncxxx_i1 sf_tree_all_1 k n1) (Eq.trans (b := t1 sf_tree_all sf_slices_ContainsFuncxxx_i1 sf_slices_IndexFuncxxx_i1 sf_tree_all_1 (p1 sf_tree_all sf_slices_ContainsFuncxxx_i1 sf_slices_IndexFuncxxx_i1 sf_tree_all_1 k n1) (p2 sf_tree_all sf_slices_ContainsFuncxxx_i1 sf_slices_IndexFuncxxx_i1 sf_tree_all_1 k)) (d1 sf_tree_all sf_slices_ContainsFuncxxx_i1 sf_slices_IndexFuncxxx_i1 sf_tree_all_1 ih (o2 sf_tree_all sf_slices_ContainsFuncxxx_i1 sf_slices_IndexFuncxxx_i1 sf_tree_all_1 k)) (by kernel_rfl))))
def t0 (sf_tree_all : ((Option N1) × (((D0) × (Unit)) × (Unit))) → Option ((Bool) × (Unit))) (sf_slices_ContainsFuncxxx_i1 : ((List (Option N1)) × ((((D0) × (Unit)) × (Unit)) × (Unit))) → Option ((Bool) × (Unit))) (sf_slices_IndexFuncxxx_i1 : ((List (Option N1)) × ((((D0) × (Unit)) × (Unit)) × (Unit))) → Option ((Int) × (Unit))) (sf_tree_all_1 : ((Option N1) × (((D0) × (Unit)) × (Unit))) → Option ((Bool) × (Unit))) (f1 : T1) : T0 := fun x0 x1 => 
  (f1 x0 x1 ((List.length x0 : Nat) : Int) (0 : Int))
theorem e0 (sf_tree_all : ((Option N1) × (((D0) × (Unit)) × (Unit))) → Option ((Bool) × (Unit))) (sf_slices_ContainsFuncxxx_i1 : ((List (Option N1)) × ((((D0) × (Unit)) × (Unit)) × (Unit))) → Option ((Bool) × (Unit))) (sf_slices_IndexFuncxxx_i1 : ((List (Option N1)) × ((((D0) × (Unit)) × (Unit)) × (Unit))) → Option ((Int) × (Unit))) (sf_tree_all_1 : ((Option N1) × (((D0) × (Unit)) × (Unit))) → Option ((Bool) × (Unit))) (k : Nat) : u0 sf_tree_all sf_slices_ContainsFuncxxx_i1 sf_slices_IndexFuncxxx_i1 sf_tree_all_1 k = t0 sf_tree_all sf_slices_ContainsFuncxxx_i1 sf_slices_IndexFuncxxx_i1 sf_tree_all_1 (l1 sf_tree_all sf_slices_ContainsFuncxxx_i1 sf_slices_IndexFuncxxx_i1 sf_tree_all_1 k k) := by kernel_rfl
theorem d0 (sf_tree_all : ((Option N1) × (((D0) × (Unit)) × (Unit))) → Option ((Bool) × (Unit))) (sf_slices_ContainsFuncxxx_i1 : ((List (Option N1)) × ((((D0) × (Unit)) × (Unit)) × (Unit))) → Option ((Bool) × (Unit))) (sf_slices_IndexFuncxxx_i1 : ((List (Option N1)) × ((((D0) × (Unit)) × (Unit)) × (Unit))) → Option ((Int) × (Unit))) (sf_tree_all_1 : ((Option N1) × (((D0) × (Unit)) × (Unit))) → Option ((Bool) × (Unit))) {x1 y1 : T1} (h1 : x1 = y1) : t0 sf_tree_all sf_slices_ContainsFuncxxx_i1 sf_slices_IndexFuncxxx_i1 sf_tree_all_1 x1 = t0 sf_tree_all sf_slices_ContainsFuncxxx_i1 sf_slices_IndexFuncxxx_i1 sf_tree_all_1 y1 := by subst h1; rfl
def p0 (sf_tree_all : ((Option N1) × (((D0) × (Unit)) × (Unit))) → Option ((Bool) × (Unit))) (sf_slices_ContainsFuncxxx_i1 : ((List (Option N1)) × ((((D0) × (Unit)) × (Unit)) × (Unit))) → Option ((Bool) × (Unit))) (sf_slices_IndexFuncxxx_i1 : ((List (Option N1)) × ((((D0) × (Unit)) × (Unit)) × (Unit))) → Option ((Int) × (Unit))) (sf_tree_all_1 : ((Option N1) × (((D0) × (Unit)) × (Unit))) → Option ((Bool) × (Unit))) (k : Nat) : T0 := t0 sf_tree_all sf_slices_ContainsFuncxxx_i1 sf_slices_IndexFuncxxx_i1 sf_tree_all_1 (p1 sf_tree_all sf_slices_ContainsFuncxxx_i1 sf_slices_IndexFuncxxx_i1 sf_tree_all_1 k k)
theorem o0 (sf_tree_all : ((Option N1) × (((D0) × (Unit)) × (Unit))) → Option ((Bool) × (Unit))) (sf_slices_ContainsFuncxxx_i1 : ((List (Option N1)) × ((((D0) × (Unit)) × (Unit)) × (Unit))) → Option ((Bool) × (Unit))) (sf_slices_IndexFuncxxx_i1 : ((List (Option N1)) × ((((D0) × (Unit)) × (Unit)) × (Unit))) → Option ((Int) × (Unit))) (sf_tree_all_1 : ((Option N1) × (((D0) × (Unit)) × (Unit))) → Option ((Bool) × (Unit))) (k : Nat) : u0 sf_tree_all sf_slices_ContainsFuncxxx_i1 sf_slices_IndexFuncxxx_i1 sf_tree_all_1 k = p0 sf_tree_all sf_slices_ContainsFuncxxx_i1 sf_slices_IndexFuncxxx_i1 sf_tree_all_1 k := (Eq.trans (b := t0 sf_tree_all sf_slices_ContainsFuncxxx_i1 sf_slices_IndexFuncxxx_i1 sf_tree_all_1 (l1 sf_tree_all sf_slices_ContainsFuncxxx_i1 sf_slices_IndexFuncxxx_i1 sf_tree_all_1 k k)) (e0 sf_tree_all sf_slices_ContainsFuncxxx_i1 sf_slices_IndexFuncxxx_i1 sf_tree_all_1 k) (Eq.trans (b := t0 sf_tree_all sf_slices_ContainsFuncxxx_i1 sf_slices_IndexFuncxxx_i1 sf_tree_all_1 (p1 sf_tree_all sf_slices_ContainsFuncxxx_i1 sf_slices_IndexFuncxxx_i1 sf_tree_all_1 k k)) (d0 sf_tree_all sf_slices_ContainsFuncxxx_i1 sf_slices_IndexFuncxxx_i1 sf_tree_all_1 (o1 sf_tree_all sf_slices_ContainsFuncxxx_i1 sf_slices_IndexFuncxxx_i1 sf_tree_all_1 k k)) (by kernel_rfl)))
end slices_IndexFuncxxx_i1
namespace tree_all_1
def E (sf_tree_all : ((Option N1) × (((D0) × (Unit)) × (Unit))) → Option ((Bool) × (Unit))) (sf_slices_ContainsFuncxxx_i1 : ((List (Option N1)) × ((((D0) × (Unit)) × (Unit)) × (Unit))) → Option ((Bool) × (Unit))) (sf_slices_IndexFuncxxx_i1 : ((List (Option N1)) × ((((D0) × (Unit)) × (Unit)) × (Unit))) → Option ((Int) × (Unit))) (sf_tree_all_1 : ((Option N1) × (((D0) × (Unit)) × (Unit))) → Option ((Bool) × (Unit))) : Env cx := { tys := tys, fs := fsOf [(42, (Fr_tree_all sf_tree_all))] }
abbrev R := Option ((Bool) × (Unit))
abbrev C := Exit → ST cx → R
noncomputable def b : Code := bodyC Try.f69
def h : Hint := { vs := [0, 1, 3], nil := [], cuts := [], ret := ([3], []), ords := [] }
abbrev T0 := (Option N1) → ((D0) × (Unit)) → R
def u0 (sf_tree_all : ((Option N1) × (((D0) × (Unit)) × (Unit))) → Option ((Bool) × (Unit))) (sf_slices_ContainsFuncxxx_i1 : ((List (Option N1)) × ((((D0) × (Unit)) × (Unit)) × (Unit))) → Option ((Bool) × (Unit))) (sf_slices_IndexFuncxxx_i1 : ((List (Option N1)) × ((((D0) × (Unit)) × (Unit)) × (Unit))) → Option ((Int) × (Unit))) (sf_tree_all_1 : ((Option N1) × (((D0) × (Unit)) × (Unit))) → Option ((Bool) × (Unit))) (k : Nat) : T0 := fun x0 x1 => runOf (S := cx) (E sf_tree_all sf_slices_ContainsFuncxxx_i1 sf_slices_IndexFuncxxx_i1 sf_tree_all_1) h k Try.f69 [.val (.ptr 1), .val (.box (.clo 43 (.pair (.box ty0) .unit)))] .bool .ro (x0, x1, ())
def t0 (sf_tree_all : ((Option N1) × (((D0) × (Unit)) × (Unit))) → Option ((Bool) × (Unit))) (sf_slices_ContainsFuncxxx_i1 : ((List (Option N1)) × ((((D0) × (Unit)) × (Unit)) × (Unit))) → Option ((Bool) × (Unit))) (sf_slices_IndexFuncxxx_i1 : ((List (Option N1)) × ((((D0) × (Unit)) × (Unit)) × (Unit))) → Option ((Int) × (Unit))) (sf_tree_all_1 : ((Option N1) × (((D0) × (Unit)) × (Unit))) → Option ((Bool) × (Unit))) : T0 := fun x0 x1 => 
  (bindR (sf_tree_all (x0, (x1, ()))) fun r1 => (some ((notB r1.1), ())))
theorem e0 (sf_tree_all : ((Option N1) × (((D0) × (Unit)) × (Unit))) → Option ((Bool) × (Unit))) (sf_slices_ContainsFuncxxx_i1 : ((List (Option N1)) × ((((D0) × (Unit)) × (Unit)) × (Unit))) → Option ((Bool) × (Unit))) (sf_slices_IndexFuncxxx_i1 : ((List (Option N1)) × ((((D0) × (Unit)) × (Unit)) × (Unit))) → Option ((Int) × (Unit))) (sf_tree_all_1 : ((Option N1) × (((D0) × (Unit)) × (Unit))) → Option ((Bool) × (Unit))) (k : Nat) : u0 sf_tree_all sf_slices_ContainsFuncxxx_i1 sf_slices_IndexFuncxxx_i1 sf_tree_all_1 k = t0 sf_tree_all sf_slices_ContainsFuncxxx_i1 sf_slices_IndexFuncxxx_i1 sf_tree_all_1 := by kernel_rfl
def p0 (sf_tree_all : ((Option N1) × (((D0) × (Unit)) × (Unit))) → Option ((Bool) × (Unit))) (sf_slices_ContainsFuncxxx_i1 : ((List (Option N1)) × ((((D0) × (Unit)) × (Unit)) × (Unit))) → Option ((Bool) × (Unit))) (sf_slices_IndexFuncxxx_i1 : ((List (Option N1)) × ((((D0) × (Unit)) × (Unit)) × (Unit))) → Option ((Int) × (Unit))) (sf_tree_all_1 : ((Option N1) × (((D0) × (Unit)) × (Unit))) → Option ((Bool) × (Unit))) (k : Nat) : T0 := t0 sf_tree_all sf_slices_ContainsFuncxxx_i1 sf_slices_IndexFuncxxx_i1 sf_tree_all_1
theorem o0 (sf_tree_all : ((Option N1) × (((D0) × (Unit)) × (Unit))) → Option ((Bool) × (Unit))) (sf_slices_ContainsFuncxxx_i1 : ((List (Option N1)) × ((((D0) × (Unit)) × (Unit)) × (Unit))) → Option ((Bool) × (Unit))) (sf_slices_IndexFuncxxx_i1 : ((List (Option N1)) × ((((D0) × (Unit)) × (Unit)) × (Unit))) → Option ((Int) × (Unit))) (sf_tree_all_1 : ((Option N1) × (((D0) × (Unit)) × (Unit))) → Option ((Bool) × (Unit))) (k : Nat) : u0 sf_tree_all sf_slices_ContainsFuncxxx_i1 sf_slices_IndexFuncxxx_i1 sf_tree_all_1 k = p0 sf_tree_all sf_slices_ContainsFuncxxx_i1 sf_slices_IndexFuncxxx_i1 sf_tree_all_1 k := (Eq.trans (b := t0 sf_tree_all sf_slices_ContainsFuncxxx_i1 sf_slices_IndexFuncxxx_i1 sf_tree_all_1) (e0 sf_tree_all sf_slices_ContainsFuncxxx_i1 sf_slices_IndexFuncxxx_i1 sf_tree_all_1 k) (by kernel_rfl))
end tree_all_1
mutual
def r_tree_all : Nat → ((Option N1) × (((D0) × (Unit)) × (Unit))) → Option ((Bool) × (Unit))
  | 0, _ => none
  | n + 1, a => tree_all.p0 (r_tree_all n) (r_slices_ContainsFuncxxx_i1 n) (r_slices_IndexFuncxxx_i1 n) (r_tree_all_1 n) (fuel) a.1 a.2.1
def r_slices_ContainsFuncxxx_i1 : Nat → ((List (Option N1)) × ((((D0) × (Unit)) × (Unit)) × (Unit))) → Option ((Bool) × (Unit))
  | 0, _ => none
  | n + 1, a => slices_ContainsFuncxxx_i1.p0 (r_tree_all n) (r_slices_ContainsFuncxxx_i1 n) (r_slices_IndexFuncxxx_i1 n) (r_tree_all_1 n) (fuel) a.1 a.2.1
def r_slices_IndexFuncxxx_i1 : Nat → ((List (Option N1)) × ((((D0) × (Unit)) × (Unit)) × (Unit))) → Option ((Int) × (Unit))
  | 0, _ => none
  | n + 1, a => slices_IndexFuncxxx_i1.p0 (r_tree_all n) (r_slices_ContainsFuncxxx_i1 n) (r_slices_IndexFuncxxx_i1 n) (r_tree_all_1 n) (fuel) a.1 a.2.1
def r_tree_all_1 : Nat → ((Option N1) × (((D0) × (Unit)) × (Unit))) → Option ((Bool) × (Unit))
  | 0, _ => none
  | n + 1, a => tree_all_1.p0 (r_tree_all n) (r_slices_ContainsFuncxxx_i1 n) (r_slices_IndexFuncxxx_i1 n) (r_tree_all_1 n) (fuel) a.1 a.2.1
end
theorem okr_tree_all : ∀ n, FnOk Try.prog (Fr_tree_all (r_tree_all n)) 42 ∧ FnOk Try.prog (Fr_slices_ContainsFuncxxx_i1 (r_slices_ContainsFuncxxx_i1 n)) 37 ∧ FnOk Try.prog (Fr_slices_IndexFuncxxx_i1 (r_slices_IndexFuncxxx_i1 n)) 65 ∧ FnOk Try.prog (Fr_tree_all_1 (r_tree_all_1 n)) 69
  | 0 => ⟨fn_none (fun _ => rfl), fn_none (fun _ => rfl), fn_none (fun _ => rfl), fn_none (fun _ => rfl)⟩
  | n + 1 => ⟨fn_of (F := Fr_tree_all (r_tree_all (n + 1))) (hn := tree_all.h) (E := tree_all.E (r_tree_all n) (r_slices_ContainsFuncxxx_i1 n) (r_slices_IndexFuncxxx_i1 n) (r_tree_all_1 n)) cxOk (tysT _ _) (fs_cons (okr_tree_all n).2.1 (fs_cons ok_tree_Right_1 fs_nil)) follows Try.func42 (by kernel_rfl) (fun a r h => ⟨fuel, Eq.trans (c := some r) (congrFun (congrFun (tree_all.o0 (r_tree_all n) (r_slices_ContainsFuncxxx_i1 n) (r_slices_IndexFuncxxx_i1 n) (r_tree_all_1 n) (fuel)) a.1) a.2.1) h⟩), fn_of (F := Fr_slices_ContainsFuncxxx_i1 (r_slices_ContainsFuncxxx_i1 (n + 1))) (hn := slices_ContainsFuncxxx_i1.h) (E := slices_ContainsFuncxxx_i1.E (r_tree_all n) (r_slices_ContainsFuncxxx_i1 n) (r_slices_IndexFuncxxx_i1 n) (r_tree_all_1 n)) cxOk (tysT _ _) (fs_cons (okr_tree_all n).2.2.1 fs_nil) follows Try.func37 (by kernel_rfl) (fun a r h => ⟨fuel, Eq.trans (c := some r) (congrFun (congrFun (slices_ContainsFuncxxx_i1.o0 (r_tree_all n) (r_slices_ContainsFuncxxx_i1 n) (r_slices_IndexFuncxxx_i1 n) (r_tree_all_1 n) (fuel)) a.1) a.2.1) h⟩), fn_of (F := Fr_slices_IndexFuncxxx_i1 (r_slices_IndexFuncxxx_i1 (n + 1))) (hn := slices_IndexFuncxxx_i1.h) (E := slices_IndexFuncxxx_i1.E (r_tree_all n) (r_slices_ContainsFuncxxx_i1 n) (r_slices_IndexFuncxxx_i1 n) (r_tree_all_1 n)) cxOk (tysT _ _) (fs_cons (okr_tree_all n).2.2.2 fs_nil) follows Try.func65 (by kernel_rfl) (fun a r h => ⟨fuel, Eq.trans (c := some r) (congrFun (congrFun (slices_IndexFuncxxx_i1.o0 (r_tree_all n) (r_slices_ContainsFuncxxx_i1 n) (r_slices_IndexFuncxxx_i1 n) (r_tree_all_1 n) (fuel)) a.1) a.2.1) h⟩), fn_of (F := Fr_tree_all_1 (r_tree_all_1 (n + 1))) (hn := tree_all_1.h) (E := tree_all_1.E (r_tree_all n) (r_slices_ContainsFuncxxx_i1 n) (r_slices_IndexFuncxxx_i1 n) (r_tree_all_1 n)) cxOk (tysT _ _) (fs_cons (okr_tree_all n).1 fs_nil) follows Try.func69 (by kernel_rfl) (fun a r h => ⟨fuel, Eq.trans (c := some r) (congrFun (congrFun (tree_all_1.o0 (r_tree_all n) (r_slices_ContainsFuncxxx_i1 n) (r_slices_IndexFuncxxx_i1 n) (r_tree_all_1 n) (fuel)) a.1) a.2.1) h⟩)⟩
def s_tree_all (a : (Option N1) × (((D0) × (Unit)) × (Unit))) : Option ((Bool) × (Unit)) := r_tree_all (fuel) a
def F_tree_all : FSpec cx.toNm := Fr_tree_all s_tree_all
theorem ok_tree_all : FnOk Try.prog F_tree_all 42 := fun w Z own vs a r h1 h2 h3 h4 => (okr_tree_all (fuel)).1 w Z own vs a r h1 h2 h3 h4
namespace tree_Right
def E : Env cx := { tys := tys, fs := fsOf [(36, F_symbols_Right), (42, F_tree_all)], wr := true }
abbrev R := Option ((Bool) × (Unit))
abbrev C := Exit → ST cx → R
noncomputable def b : Code := bodyC Try.f19
def h : Hint := { vs := [0, 1, 2, 4], nil := [], cuts := [], ret := ([4], [2]), ords := [], fns := [(9, [true])] }
abbrev T0 := D0 → (Option N1) → R
def u0 (k : Nat) : T0 := fun x0 x1 => runOf (S := cx) E h k Try.f19 [.val ty0, .val (.ptr 1)] .bool .ro (x0, x1, ())
def t0 : T0 := fun x0 x1 => 
  (bindR (s_symbols_Right (x0, ())) fun r1 => (iteB r1.1 (bindR (s_tree_all (x1, ((x0, ()), ()))) fun r2 => (some (r2.1, ()))) (some (false, ()))))
theorem e0 (k : Nat) : u0 k = t0 := by kernel_rfl
def p0 (k : Nat) : T0 := t0
theorem o0 (k : Nat) : u0 k = p0 k := (Eq.trans (b := t0) (e0 k) (by kernel_rfl))
end tree_Right
def s_tree_Right (a : (D0) × ((Option N1) × (Unit))) : Option ((Bool) × (Unit)) := tree_Right.p0 (fuel) a.1 a.2.1
def F_tree_Right : FSpec cx.toNm := { ps := [.val ty0, .val (.ptr 1)], nres := 1, rt := .bool, rm := .ro, f := s_tree_Right }
theorem w_tree_Right (a : (D0) × ((Option N1) × (Unit))) : runOf (S := cx) tree_Right.E tree_Right.h (fuel) Try.f19 F_tree_Right.ps F_tree_Right.rt F_tree_Right.rm a = F_tree_Right.f a := Eq.trans (b := tree_Right.u0 (fuel) a.1 a.2.1) (by kernel_rfl) (Eq.trans (b := tree_Right.p0 (fuel) a.1 a.2.1) (congrFun (congrFun (tree_Right.o0 (fuel)) a.1) a.2.1) (by kernel_rfl))
theorem ok_tree_Right : FnOk Try.prog F_tree_Right 19 := fn_of (hn := tree_Right.h) (E := tree_Right.E) cxOk (tysT _ _) (fs_cons ok_symbols_Right (fs_cons ok_tree_all fs_nil)) follows Try.func19 (by kernel_rfl) (fun a r h => ⟨fuel, Eq.trans (w_tree_Right a) h⟩)
def Fr_ref15_Of (f : ((D2) × (Unit)) → Option ((Option N1) × (Unit))) : FSpec cx.toNm := { ps := [.val ty2], nres := 1, rt := (.ptr 1), rm := .ro, f := f }
namespace ref15_Of
def E (sf_ref15_Of : ((D2) × (Unit)) → Option ((Option N1) × (Unit))) : Env cx := { tys := tys, fs := fsOf [(18, (Fr_ref15_Of sf_ref15_Of))] }
abbrev R := Option ((Option N1) × (Unit))
abbrev C := Exit → ST cx → R
noncomputable def b : Code := bodyC Try.f18
def h : Hint := { vs := [0, 1, 2, 3, 4], nil := [(17, (.pr .ro (.pr .ro (.pr .ro (.pr (.own .ro) .ro)))))], cuts := [(5, ([1, 3, 4], [1, 18]), ([3], [18])), (8, ([3], [18]), ([3], [18]))], ret := ([2], [1, 18]), ords := [] }
def K0 (sf_ref15_Of : ((D2) × (Unit)) → Option ((Option N1) × (Unit))) : C := fin (S := cx) (E sf_ref15_Of) Try.f18.results.toList (.ptr 1) .ro [] []
def c0 : Code := subC b [1]
def K1 (sf_ref15_Of : ((D2) × (Unit)) → Option ((Option N1) × (Unit))) (k : Nat) : C := outD h c0 (K0 sf_ref15_Of)
def c1 : Code := subC b [1, 1]
def K3 (sf_ref15_Of : ((D2) × (Unit)) → Option ((Option N1) × (Unit))) (k : Nat) : C := outD h c1 (K1 sf_ref15_Of k)
def c4 : Code := subC b [1, 1, 1]
def K9 (sf_ref15_Of : ((D2) × (Unit)) → Option ((Option N1) × (Unit))) (k : Nat) : C := outD h c4 (K3 sf_ref15_Of k)
def c5 : Code := subC b [1, 1, 1, 1]
def K11 (sf_ref15_Of : ((D2) × (Unit)) → Option ((Option N1) × (Unit))) (k : Nat) : C := outD h c5 (K9 sf_ref15_Of k)
def K12 (sf_ref15_Of : ((D2) × (Unit)) → Option ((Option N1) × (Unit))) (k : Nat) : C := seqC (E sf_ref15_Of) h k c5 (K9 sf_ref15_Of k)
def c6 : Code := subC b [1, 1, 1, 0, 1]
def K13 (sf_ref15_Of : ((D2) × (Unit)) → Option ((Option N1) × (Unit))) (k : Nat) : C := outD h c6 (K12 sf_ref15_Of k)
def K15 (sf_ref15_Of : ((D2) × (Unit)) → Option ((Option N1) × (Unit))) (k : Nat) : C := blockK 0 (K13 sf_ref15_Of k)
def c7 : Code := subC b [1, 1, 1, 0, 1, 0, 0]
abbrev T2 := D1 → R
abbrev T1 := Int → D2 → D1 → R
abbrev T0 := D2 → R
abbrev s2 := fun m18 => ({ vars := [(3, .addr (.mem 18) [])], scr := [], mems := [(18, ⟨ty1, (.pr .ro (.pr .ro (.pr .ro (.pr (.own .ro) .ro)))), m18⟩)] } : ST cx)
def u2 (sf_ref15_Of : ((D2) × (Unit)) → Option ((Option N1) × (Unit))) (k : Nat) : T2 := fun m18 => uK (run (E sf_ref15_Of) h k c5) (s2 m18) (K11 sf_ref15_Of k)
abbrev l2 (sf_ref15_Of : ((D2) × (Unit)) → Option ((Option N1) × (Unit))) (k : Nat) : T2 := fun m18 => cutK (run (E sf_ref15_Of) h k c5) (s2 m18) (K11 sf_ref15_Of k)
abbrev s1 := fun x4 m1 m18 => ({ vars := [(1, .addr (.mem 1) []), (3, .addr (.mem 18) []), (4, .v (.int .i64) .ro x4)], scr := [], mems := [(1, ⟨ty2, .ro, m1⟩), (18, ⟨ty1, (.pr .ro (.pr .ro (.pr .ro (.pr (.own .ro) .ro)))), m18⟩)] } : ST cx)
def u1 (sf_ref15_Of : ((D2) × (Unit)) → Option ((Option N1) × (Unit))) (k n1 : Nat) : T1 := fun x4 m1 m18 => uK (loopL (E sf_ref15_Of) h k c7 (K15 sf_ref15_Of k) n1) (s1 x4 m1 m18) ()
abbrev l1 (sf_ref15_Of : ((D2) × (Unit)) → Option ((Option N1) × (Unit))) (k n1 : Nat) : T1 := fun x4 m1 m18 => cutK (loopL (E sf_ref15_Of) h k c7 (K15 sf_ref15_Of k) n1) (s1 x4 m1 m18) ()
def u0 (sf_ref15_Of : ((D2) × (Unit)) → Option ((Option N1) × (Unit))) (k : Nat) : T0 := fun x0 => runOf (S := cx) (E sf_ref15_Of) h k Try.f18 [.val ty2] (.ptr 1) .ro (x0, ())
def t2 (sf_ref15_Of : ((D2) × (Unit)) → Option ((Option N1) × (Unit))) : T2 := fun m18 => 
  (some ((some (pk1 m18)), ()))
theorem e2 (sf_ref15_Of : ((D2) × (Unit)) → Option ((Option N1) × (Unit))) (k : Nat) : u2 sf_ref15_Of k = t2 sf_ref15_Of := by kernel_rfl
theorem g2 (sf_ref15_Of : ((D2) × (Unit)) → Option ((Option N1) × (Unit))) (k : Nat) : l2 sf_ref15_Of k = u2 sf_ref15_Of k := funext fun _ => cut_u _ _ _
def p2 (sf_ref15_Of : ((D2) × (Unit)) → Option ((Option N1) × (Unit))) (k : Nat) : T2 := t2 sf_ref15_Of
theorem o2 (sf_ref15_Of : ((D2) × (Unit)) → Option ((Option N1) × (Unit))) (k : Nat) : l2 sf_ref15_Of k = p2 sf_ref15_Of k := (Eq.trans (b := u2 sf_ref15_Of k) (g2 sf_ref15_Of k) (Eq.trans (b := t2 sf_ref15_Of) (e2 sf_ref15_Of k) (by kernel_rfl)))
def t1 (sf_ref15_Of : ((D2) × (Unit)) → Option ((Option N1) × (Unit))) (f1 : T1) (f2 : T2) : T1 := fun x4 m1 m18 => 
  (iteB (decide (x4 < ((List.length m1.2.2.2.2.1 : Nat) : Int))) (withinR x4 (List.length m1.2.2.2.2.1) fun q1 => (bindR (sf_ref15_Of ((out0 (List.getD m1.2.2.2.2.1 q1 (pk0 (false, ((0 : Int), ((0 : Int), (([] : List UInt8), (([] : List (N0)), ((0 : Int), (0 : Int)))))))))), ())) fun r2 => (mustR (room m18.2.2.2.1 ([r2.1] : List (Option N1))) (f1 (w64 (x4 + (1 : Int))) m1 (m18.1, (m18.2.1, (m18.2.2.1, ((m18.2.2.2.1 ++ ([r2.1] : List (Option N1))), m18.2.2.2.2)))))))) (f2 m18))
theorem e1 (sf_ref15_Of : ((D2) × (Unit)) → Option ((Option N1) × (Unit))) (k n1 : Nat) : u1 sf_ref15_Of k (n1 + 1) = t1 sf_ref15_Of (l1 sf_ref15_Of k n1) (l2 sf_ref15_Of k) := by kernel_rfl
theorem g1 (sf_ref15_Of : ((D2) × (Unit)) → Option ((Option N1) × (Unit))) (k n1 : Nat) : l1 sf_ref15_Of k (n1 + 1) = u1 sf_ref15_Of k (n1 + 1) := funext fun _ => funext fun _ => funext fun _ => cut_u _ _ _
theorem d1 (sf_ref15_Of : ((D2) × (Unit)) → Option ((Option N1) × (Unit))) {x1 y1 : T1} {x2 y2 : T2} (h1 : x1 = y1) (h2 : x2 = y2) : t1 sf_ref15_Of x1 x2 = t1 sf_ref15_Of y1 y2 := by subst h1; subst h2; rfl
def p1 (sf_ref15_Of : ((D2) × (Unit)) → Option ((Option N1) × (Unit))) (k : Nat) : Nat → T1
  | 0 => fun _ _ _ => none
  | n1 + 1 => t1 sf_ref15_Of (p1 sf_ref15_Of k n1) (p2 sf_ref15_Of k)
theorem o1 (sf_ref15_Of : ((D2) × (Unit)) → Option ((Option N1) × (Unit))) (k : Nat) : ∀ n1, l1 sf_ref15_Of k n1 = p1 sf_ref15_Of k n1 := by
  intro n1
  induction n1 with
  | zero => kernel_rfl
  | succ n1 ih => exact (Eq.trans (b := u1 sf_ref15_Of k (n1 + 1)) (g1 sf_ref15_Of k n1) (Eq.trans (b := t1 sf_ref15_Of (l1 sf_ref15_Of k n1) (l2 sf_ref15_Of k)) (e1 sf_ref15_Of k n1) (Eq.trans (b := t1 sf_ref15_Of (p1 sf_ref15_Of k n1) (p2 sf_ref15_Of k)) (d1 sf_ref15_Of ih (o2 sf_ref15_Of k)) (by kernel_rfl))))
def t0 (sf_ref15_Of : ((D2) × (Unit)) → Option ((Option N1) × (Unit))) (f1 : T1) : T0 := fun x0 => 
  (iteB x0.1 (some (none, ())) (f1 (0 : Int) x0 (x0.2.1, (x0.2.2.1, (x0.2.2.2.1, (([] : List (Option N1)), (x0.2.2.2.2.2.1, x0.2.2.2.2.2.2)))))))
theorem e0 (sf_ref15_Of : ((D2) × (Unit)) → Option ((Option N1) × (Unit))) (k : Nat) : u0 sf_ref15_Of k = t0 sf_ref15_Of (l1 sf_ref15_Of k k) := by kernel_rfl
theorem d0 (sf_ref15_Of : ((D2) × (Unit)) → Option ((Option N1) × (Unit))) {x1 y1 : T1} (h1 : x1 = y1) : t0 sf_ref15_Of x1 = t0 sf_ref15_Of y1 := by subst h1; rfl
def p0 (sf_ref15_Of : ((D2) × (Unit)) → Option ((Option N1) × (Unit))) (k : Nat) : T0 := t0 sf_ref15_Of (p1 sf_ref15_Of k k)
theorem o0 (sf_ref15_Of : ((D2) × (Unit)) → Option ((Option N1) × (Unit))) (k : Nat) : u0 sf_ref15_Of k = p0 sf_ref15_Of k := (Eq.trans (b := t0 sf_ref15_Of (l1 sf_ref15_Of k k)) (e0 sf_ref15_Of k) (Eq.trans (b := t0 sf_ref15_Of (p1 sf_ref15_Of k k)) (d0 sf_ref15_Of (o1 sf_ref15_Of k k)) (by kernel_rfl)))
end ref15_Of
def r_ref15_Of : Nat → ((D2) × (Unit)) → Option ((Option N1) × (Unit))
  | 0, _ => none
  | n + 1, a => ref15_Of.p0 (r_ref15_Of n) (fuel) a.1
theorem okr_ref15_Of : ∀ n, FnOk Try.prog (Fr_ref15_Of (r_ref15_Of n)) 18
  | 0 => fn_none (fun _ => rfl)
  | n + 1 => fn_of (F := Fr_ref15_Of (r_ref15_Of (n + 1))) (hn := ref15_Of.h) (E := ref15_Of.E (r_ref15_Of n)) cxOk (tysT _ _) (fs_cons (okr_ref15_Of n) fs_nil) follows Try.func18 (by kernel_rfl) (fun a r h => ⟨fuel, Eq.trans (c := some r) (congrFun (ref15_Of.o0 (r_ref15_Of n) (fuel)) a.1) h⟩)
def s_ref15_Of (a : (D2) × (Unit)) : Option ((Option N1) × (Unit)) := r_ref15_Of (fuel) a
def F_ref15_Of : FSpec cx.toNm := Fr_ref15_Of s_ref15_Of
theorem ok_ref15_Of : FnOk Try.prog F_ref15_Of 18 := fun w Z own vs a r h1 h2 h3 h4 => (okr_ref15_Of (fuel)) w Z own vs a r h1 h2 h3 h4
namespace law11_Great
def E : Env cx := { tys := tys, fs := fsOf [] }
abbrev R := Option ((Bool) × (Unit))
abbrev C := Exit → ST cx → R
noncomputable def b : Code := bodyC Try.f9
def h : Hint := { vs := [0, 1, 2, 3], nil := [], cuts := [(2, ([1, 43], [1]), ([1], [1])), (3, ([1], [1]), ([1], [1])), (4, ([1, 3], [1]), ([], [])), (8, ([], []), ([], []))], ret := ([2], [1]), ords := [] }
def K0 : C := fin (S := cx) E Try.f9.results.toList .bool .ro [] []
def c0 : Code := subC b [1]
def K1 (k : Nat) : C := outD h c0 K0
def c1 : Code := subC b [1, 1]
def K3 (k : Nat) : C := outD h c1 (K1 k)
def K4 (k : Nat) : C := seqC E h k c1 (K1 k)
def c2 : Code := subC b [1, 0, 1]
def K5 (k : Nat) : C := outD h c2 (K4 k)
def c4 : Code := subC b [1, 1, 1]
def K9 (k : Nat) : C := outD h c4 (K3 k)
def K10 (k : Nat) : C := seqC E h k c4 (K3 k)
def c5 : Code := subC b [1, 1, 0, 1]
def K11 (k : Nat) : C := outD h c5 (K10 k)
def K13 (k : Nat) : C := blockK 0 (K11 k)
def c6 : Code := subC b [1, 1, 0, 1, 0, 0]
abbrev T4 := R
abbrev T3 := Int → D0 → R
abbrev T2 := D0 → R
abbrev T1 := Bool → D0 → R
abbrev T0 := D0 → R
abbrev s4 : ST cx := ({ vars := [], scr := [], mems := [] } : ST cx)
def u4 (k : Nat) : T4 := uK (run E h k c4) s4 (K9 k)
abbrev l4 (k : Nat) : T4 := cutK (run E h k c4) s4 (K9 k)
abbrev s3 := fun x3 m1 => ({ vars := [(1, .addr (.mem 1) []), (3, .v (.int .i64) .ro x3)], scr := [], mems := [(1, ⟨ty0, .ro, m1⟩)] } : ST cx)
def u3 (k n3 : Nat) : T3 := fun x3 m1 => uK (loopL E h k c6 (K13 k) n3) (s3 x3 m1) ()
abbrev l3 (k n3 : Nat) : T3 := fun x3 m1 => cutK (loopL E h k c6 (K13 k) n3) (s3 x3 m1) ()
abbrev s2 := fun m1 => ({ vars := [(1, .addr (.mem 1) [])], scr := [], mems := [(1, ⟨ty0, .ro, m1⟩)] } : ST cx)
def u2 (k : Nat) : T2 := fun m1 => uK (run E h k c1) (s2 m1) (K3 k)
abbrev l2 (k : Nat) : T2 := fun m1 => cutK (run E h k c1) (s2 m1) (K3 k)
abbrev s1 := fun x43 m1 => ({ vars := [(1, .addr (.mem 1) []), (43, .v .bool .ro x43)], scr := [], mems := [(1, ⟨ty0, .ro, m1⟩)] } : ST cx)
def u1 (k : Nat) : T1 := fun x43 m1 => uK (run E h k c2) (s1 x43 m1) (K5 k)
abbrev l1 (k : Nat) : T1 := fun x43 m1 => cutK (run E h k c2) (s1 x43 m1) (K5 k)
def u0 (k : Nat) : T0 := fun x0 => runOf (S := cx) E h k Try.f9 [.val ty0] .bool .ro (x0, ())
def t4 : T4 := 
  (some (false, ()))
theorem e4 (k : Nat) : u4 k = t4 := by kernel_rfl
theorem g4 (k : Nat) : l4 k = u4 k := cut_u _ _ _
def p4 (k : Nat) : T4 := t4
theorem o4 (k : Nat) : l4 k = p4 k := (Eq.trans (b := u4 k) (g4 k) (Eq.trans (b := t4) (e4 k) (by kernel_rfl)))
def t3 (f3 : T3) (f4 : T4) : T3 := fun x3 m1 => 
  (iteB (decide (x3 < ((List.length m1.2.2.2.1 : Nat) : Int))) (withinR x3 (List.length m1.2.2.2.1) fun q1 => (iteB (decide ((20 : Int) < ((List.length (List.getD m1.2.2.2.1 q1 ((0 : Int), ([] : List (Int)))).2 : Nat) : Int))) (some (true, ())) (f3 (w64 (x3 + (1 : Int))) m1))) f4)
theorem e3 (k n3 : Nat) : u3 k (n3 + 1) = t3 (l3 k n3) (l4 k) := by kernel_rfl
theorem g3 (k n3 : Nat) : l3 k (n3 + 1) = u3 k (n3 + 1) := funext fun _ => funext fun _ => cut_u _ _ _
theorem d3 {x3 y3 : T3} {x4 y4 : T4} (h3 : x3 = y3) (h4 : x4 = y4) : t3 x3 x4 = t3 y3 y4 := by subst h3; subst h4; rfl
def p3 (k : Nat) : Nat → T3
  | 0 => fun _ _ => none
  | n3 + 1 => t3 (p3 k n3) (p4 k)
theorem o3 (k : Nat) : ∀ n3, l3 k n3 = p3 k n3 := by
  intro n3
  induction n3 with
  | zero => kernel_rfl
  | succ n3 ih => exact (Eq.trans (b := u3 k (n3 + 1)) (g3 k n3) (Eq.trans (b := t3 (l3 k n3) (l4 k)) (e3 k n3) (Eq.trans (b := t3 (p3 k n3) (p4 k)) (d3 ih (o4 k)) (by kernel_rfl))))
def t2 (f3 : T3) : T2 := fun m1 => 
  (f3 (0 : Int) m1)
theorem e2 (k : Nat) : u2 k = t2 (l3 k k) := by kernel_rfl
theorem g2 (k : Nat) : l2 k = u2 k := funext fun _ => cut_u _ _ _
theorem d2 {x3 y3 : T3} (h3 : x3 = y3) : t2 x3 = t2 y3 := by subst h3; rfl
def p2 (k : Nat) : T2 := t2 (p3 k k)
theorem o2 (k : Nat) : l2 k = p2 k := (Eq.trans (b := u2 k) (g2 k) (Eq.trans (b := t2 (l3 k k)) (e2 k) (Eq.trans (b := t2 (p3 k k)) (d2 (o3 k k)) (by kernel_rfl))))
def t1 (f2 : T2) : T1 := fun x43 m1 => 
  (iteB x43 (some (true, ())) (f2 m1))
theorem e1 (k : Nat) : u1 k = t1 (l2 k) := by kernel_rfl
theorem g1 (k : Nat) : l1 k = u1 k := funext fun _ => funext fun _ => cut_u _ _ _
theorem d1 {x2 y2 : T2} (h2 : x2 = y2) : t1 x2 = t1 y2 := by subst h2; rfl
def p1 (k : Nat) : T1 := t1 (p2 k)
theorem o1 (k : Nat) : l1 k = p1 k := (Eq.trans (b := u1 k) (g1 k) (Eq.trans (b := t1 (l2 k)) (e1 k) (Eq.trans (b := t1 (p2 k)) (d1 (o2 k)) (by kernel_rfl))))
def t0 (f1 : T1) : T0 := fun x0 => 
  (iteB (decide ((60 : Int) < ((List.length x0.1 : Nat) : Int))) (f1 true x0) (iteB (decide ((80 : Int) < ((List.length x0.2.2.2.1 : Nat) : Int))) (f1 true x0) (iteB (decide ((100 : Int) < ((List.length x0.2.2.2.2.1 : Nat) : Int))) (f1 true x0) (iteB (decide ((100 : Int) < ((List.length x0.2.2.2.2.2.1 : Nat) : Int))) (f1 true x0) (iteB (decide ((20 : Int) < ((List.length x0.2.2.2.2.2.2.1 : Nat) : Int))) (f1 true x0) (iteB (decide ((20 : Int) < ((List.length x0.2.2.2.2.2.2.2.1 : Nat) : Int))) (f1 true x0) (f1 (decide ((20 : Int) < ((List.length x0.2.2.2.2.2.2.2.2 : Nat) : Int))) x0)))))))
theorem e0 (k : Nat) : u0 k = t0 (l1 k) := by kernel_rfl
theorem d0 {x1 y1 : T1} (h1 : x1 = y1) : t0 x1 = t0 y1 := by subst h1; rfl
def p0 (k : Nat) : T0 := t0 (p1 k)
theorem o0 (k : Nat) : u0 k = p0 k := (Eq.trans (b := t0 (l1 k)) (e0 k) (Eq.trans (b := t0 (p1 k)) (d0 (o1 k)) (by kernel_rfl)))
end law11_Great
def s_law11_Great (a : (D0) × (Unit)) : Option ((Bool) × (Unit)) := law11_Great.p0 (fuel) a.1
def F_law11_Great : FSpec cx.toNm := { ps := [.val ty0], nres := 1, rt := .bool, rm := .ro, f := s_law11_Great }
theorem w_law11_Great (a : (D0) × (Unit)) : runOf (S := cx) law11_Great.E law11_Great.h (fuel) Try.f9 F_law11_Great.ps F_law11_Great.rt F_law11_Great.rm a = F_law11_Great.f a := Eq.trans (b := law11_Great.u0 (fuel) a.1) (by kernel_rfl) (Eq.trans (b := law11_Great.p0 (fuel) a.1) (congrFun (law11_Great.o0 (fuel)) a.1) (by kernel_rfl))
theorem ok_law11_Great : FnOk Try.prog F_law11_Great 9 := fn_of (hn := law11_Great.h) (E := law11_Great.E) cxOk (tysT _ _) fs_nil follows Try.func9 (by kernel_rfl) (fun a r h => ⟨fuel, Eq.trans (w_law11_Great a) h⟩)
def Fr_ref15_May (f : ((D0) × ((Option N1) × (Unit))) → Option ((Bool) × (Unit))) : FSpec cx.toNm := { ps := [.val ty0, .val (.ptr 1)], nres := 1, rt := .bool, rm := .ro, f := f }
namespace ref15_May
def E (sf_ref15_May : ((D0) × ((Option N1) × (Unit))) → Option ((Bool) × (Unit))) : Env cx := { tys := tys, fs := fsOf [(16, (Fr_ref15_May sf_ref15_May))] }
abbrev R := Option ((Bool) × (Unit))
abbrev C := Exit → ST cx → R
noncomputable def b : Code := bodyC Try.f16
def h : Hint := { vs := [0, 1, 2, 4, 5, 6, 7], nil := [], cuts := [(6, ([1, 2, 65], [2]), ([1, 2], [2])), (7, ([1, 2], [2]), ([1, 2], [2])), (9, ([1, 2, 5, 91], [2, 5]), ([1, 2, 5], [2, 5])), (10, ([1, 2, 5], [2, 5]), ([1, 2, 5], [2, 5])), (12, ([1, 2, 5, 6, 7], [2, 5]), ([1, 6], [])), (13, ([1, 2, 5, 6, 7], [2, 5]), ([1, 2, 5, 6, 7], [2, 5])), (15, ([1, 2, 5, 6, 7, 128], [2, 5]), ([1, 2, 5, 6, 7], [2, 5])), (16, ([1, 2, 5, 6, 7], [2, 5]), ([1, 2, 5, 6, 7], [2, 5])), (17, ([1, 6], []), ([1, 6], []))], ret := ([4], [2, 5]), ords := [] }
def K0 (sf_ref15_May : ((D0) × ((Option N1) × (Unit))) → Option ((Bool) × (Unit))) : C := fin (S := cx) (E sf_ref15_May) Try.f16.results.toList .bool .ro [] []
def c0 : Code := subC b [1]
def K1 (sf_ref15_May : ((D0) × ((Option N1) × (Unit))) → Option ((Bool) × (Unit))) (k : Nat) : C := outD h c0 (K0 sf_ref15_May)
def c1 : Code := subC b [1, 1]
def K3 (sf_ref15_May : ((D0) × ((Option N1) × (Unit))) → Option ((Bool) × (Unit))) (k : Nat) : C := outD h c1 (K1 sf_ref15_May k)
def c4 : Code := subC b [1, 1, 1]
def K9 (sf_ref15_May : ((D0) × ((Option N1) × (Unit))) → Option ((Bool) × (Unit))) (k : Nat) : C := outD h c4 (K3 sf_ref15_May k)
def c7 : Code := subC b [1, 1, 1, 1]
def K15 (sf_ref15_May : ((D0) × ((Option N1) × (Unit))) → Option ((Bool) × (Unit))) (k : Nat) : C := outD h c7 (K9 sf_ref15_May k)
def K16 (sf_ref15_May : ((D0) × ((Option N1) × (Unit))) → Option ((Bool) × (Unit))) (k : Nat) : C := seqC (E sf_ref15_May) h k c7 (K9 sf_ref15_May k)
def c8 : Code := subC b [1, 1, 1, 0, 1]
def K17 (sf_ref15_May : ((D0) × ((Option N1) × (Unit))) → Option ((Bool) × (Unit))) (k : Nat) : C := outD h c8 (K16 sf_ref15_May k)
def c10 : Code := subC b [1, 1, 1, 1, 1]
def K21 (sf_ref15_May : ((D0) × ((Option N1) × (Unit))) → Option ((Bool) × (Unit))) (k : Nat) : C := outD h c10 (K15 sf_ref15_May k)
def c11 : Code := subC b [1, 1, 1, 1, 1, 1]
def K23 (sf_ref15_May : ((D0) × ((Option N1) × (Unit))) → Option ((Bool) × (Unit))) (k : Nat) : C := outD h c11 (K21 sf_ref15_May k)
def K24 (sf_ref15_May : ((D0) × ((Option N1) × (Unit))) → Option ((Bool) × (Unit))) (k : Nat) : C := seqC (E sf_ref15_May) h k c11 (K21 sf_ref15_May k)
def c12 : Code := subC b [1, 1, 1, 1, 1, 0, 1]
def K25 (sf_ref15_May : ((D0) × ((Option N1) × (Unit))) → Option ((Bool) × (Unit))) (k : Nat) : C := outD h c12 (K24 sf_ref15_May k)
def c14 : Code := subC b [1, 1, 1, 1, 1, 1, 1]
def K29 (sf_ref15_May : ((D0) × ((Option N1) × (Unit))) → Option ((Bool) × (Unit))) (k : Nat) : C := outD h c14 (K23 sf_ref15_May k)
def c15 : Code := subC b [1, 1, 1, 1, 1, 1, 1, 1]
def K31 (sf_ref15_May : ((D0) × ((Option N1) × (Unit))) → Option ((Bool) × (Unit))) (k : Nat) : C := outD h c15 (K29 sf_ref15_May k)
def K32 (sf_ref15_May : ((D0) × ((Option N1) × (Unit))) → Option ((Bool) × (Unit))) (k : Nat) : C := seqC (E sf_ref15_May) h k c15 (K29 sf_ref15_May k)
def c16 : Code := subC b [1, 1, 1, 1, 1, 1, 1, 0, 1]
def K33 (sf_ref15_May : ((D0) × ((Option N1) × (Unit))) → Option ((Bool) × (Unit))) (k : Nat) : C := outD h c16 (K32 sf_ref15_May k)
def K35 (sf_ref15_May : ((D0) × ((Option N1) × (Unit))) → Option ((Bool) × (Unit))) (k : Nat) : C := blockK 0 (K33 sf_ref15_May k)
def c17 : Code := subC b [1, 1, 1, 1, 1, 1, 1, 0, 1, 0, 0]
def K36 (sf_ref15_May : ((D0) × ((Option N1) × (Unit))) → Option ((Bool) × (Unit))) (k n5 : Nat) : C := loopD (E sf_ref15_May) h k c17 (K35 sf_ref15_May k) n5
def c18 : Code := subC b [1, 1, 1, 1, 1, 1, 1, 0, 1, 0, 0, 1]
def K37 (sf_ref15_May : ((D0) × ((Option N1) × (Unit))) → Option ((Bool) × (Unit))) (k n5 : Nat) : C := outD h c18 (K36 sf_ref15_May k n5)
def c20 : Code := subC b [1, 1, 1, 1, 1, 1, 1, 0, 1, 0, 0, 1, 1]
def K41 (sf_ref15_May : ((D0) × ((Option N1) × (Unit))) → Option ((Bool) × (Unit))) (k n5 : Nat) : C := outD h c20 (K37 sf_ref15_May k n5)
def K42 (sf_ref15_May : ((D0) × ((Option N1) × (Unit))) → Option ((Bool) × (Unit))) (k n5 : Nat) : C := seqC (E sf_ref15_May) h k c20 (K37 sf_ref15_May k n5)
def K43 (sf_ref15_May : ((D0) × ((Option N1) × (Unit))) → Option ((Bool) × (Unit))) (k n5 : Nat) : C := blockK 1 (K42 sf_ref15_May k n5)
def c21 : Code := subC b [1, 1, 1, 1, 1, 1, 1, 0, 1, 0, 0, 1, 0, 0, 1]
def K44 (sf_ref15_May : ((D0) × ((Option N1) × (Unit))) → Option ((Bool) × (Unit))) (k n5 : Nat) : C := outD h c21 (K43 sf_ref15_May k n5)
def K45 (sf_ref15_May : ((D0) × ((Option N1) × (Unit))) → Option ((Bool) × (Unit))) (k n5 : Nat) : C := seqC (E sf_ref15_May) h k c21 (K43 sf_ref15_May k n5)
def c22 : Code := subC b [1, 1, 1, 1, 1, 1, 1, 0, 1, 0, 0, 1, 0, 0, 0, 1]
def K46 (sf_ref15_May : ((D0) × ((Option N1) × (Unit))) → Option ((Bool) × (Unit))) (k n5 : Nat) : C := outD h c22 (K45 sf_ref15_May k n5)
abbrev T9 := (Option N1) → Int → Int → D0 → ((Int) × (List (Int))) → R
abbrev T8 := (Option N1) → Int → Int → D0 → ((Int) × (List (Int))) → R
abbrev T6 := (Option N1) → Int → Int → Bool → D0 → ((Int) × (List (Int))) → R
abbrev T7 := (Option N1) → Int → R
abbrev T5 := (Option N1) → Int → Int → D0 → ((Int) × (List (Int))) → R
abbrev T4 := (Option N1) → D0 → ((Int) × (List (Int))) → R
abbrev T3 := (Option N1) → Bool → D0 → ((Int) × (List (Int))) → R
abbrev T2 := (Option N1) → D0 → R
abbrev T1 := (Option N1) → Bool → D0 → R
abbrev T0 := D0 → (Option N1) → R
abbrev s9 := fun x1 x6 x7 m2 m5 => ({ vars := [(1, .v (.ptr 1) .ro x1), (2, .addr (.mem 2) []), (5, .addr (.mem 5) []), (6, .v (.int .i64) .ro x6), (7, .v (.int .i64) .ro x7)], scr := [], mems := [(2, ⟨ty0, .ro, m2⟩), (5, ⟨(.agg (.pair (.int .i64) (.slice 3 (.int .i64)))), .ro, m5⟩)] } : ST cx)
def u9 (sf_ref15_May : ((D0) × ((Option N1) × (Unit))) → Option ((Bool) × (Unit))) (k n5 : Nat) : T9 := fun x1 x6 x7 m2 m5 => uK (run (E sf_ref15_May) h k c20) (s9 x1 x6 x7 m2 m5) (K41 sf_ref15_May k n5)
abbrev l9 (sf_ref15_May : ((D0) × ((Option N1) × (Unit))) → Option ((Bool) × (Unit))) (k n5 : Nat) : T9 := fun x1 x6 x7 m2 m5 => cutK (run (E sf_ref15_May) h k c20) (s9 x1 x6 x7 m2 m5) (K41 sf_ref15_May k n5)
abbrev s8 := fun x1 x6 x7 m2 m5 => ({ vars := [(1, .v (.ptr 1) .ro x1), (2, .addr (.mem 2) []), (5, .addr (.mem 5) []), (6, .v (.int .i64) .ro x6), (7, .v (.int .i64) .ro x7)], scr := [], mems := [(2, ⟨ty0, .ro, m2⟩), (5, ⟨(.agg (.pair (.int .i64) (.slice 3 (.int .i64)))), .ro, m5⟩)] } : ST cx)
def u8 (sf_ref15_May : ((D0) × ((Option N1) × (Unit))) → Option ((Bool) × (Unit))) (k n5 : Nat) : T8 := fun x1 x6 x7 m2 m5 => uK (run (E sf_ref15_May) h k c21) (s8 x1 x6 x7 m2 m5) (K44 sf_ref15_May k n5)
abbrev l8 (sf_ref15_May : ((D0) × ((Option N1) × (Unit))) → Option ((Bool) × (Unit))) (k n5 : Nat) : T8 := fun x1 x6 x7 m2 m5 => cutK (run (E sf_ref15_May) h k c21) (s8 x1 x6 x7 m2 m5) (K44 sf_ref15_May k n5)
abbrev s6 := fun x1 x6 x7 x128 m2 m5 => ({ vars := [(1, .v (.ptr 1) .ro x1), (2, .addr (.mem 2) []), (5, .addr (.mem 5) []), (6, .v (.int .i64) .ro x6), (7, .v (.int .i64) .ro x7), (128, .v .bool .ro x128)], scr := [], mems := [(2, ⟨ty0, .ro, m2⟩), (5, ⟨(.agg (.pair (.int .i64) (.slice 3 (.int .i64)))), .ro, m5⟩)] } : ST cx)
def u6 (sf_ref15_May : ((D0) × ((Option N1) × (Unit))) → Option ((Bool) × (Unit))) (k n5 : Nat) : T6 := fun x1 x6 x7 x128 m2 m5 => uK (run (E sf_ref15_May) h k c22) (s6 x1 x6 x7 x128 m2 m5) (K46 sf_ref15_May k n5)
abbrev l6 (sf_ref15_May : ((D0) × ((Option N1) × (Unit))) → Option ((Bool) × (Unit))) (k n5 : Nat) : T6 := fun x1 x6 x7 x128 m2 m5 => cutK (run (E sf_ref15_May) h k c22) (s6 x1 x6 x7 x128 m2 m5) (K46 sf_ref15_May k n5)
abbrev s7 := fun x1 x6 => ({ vars := [(1, .v (.ptr 1) .ro x1), (6, .v (.int .i64) .ro x6)], scr := [], mems := [] } : ST cx)
def u7 (sf_ref15_May : ((D0) × ((Option N1) × (Unit))) → Option ((Bool) × (Unit))) (k : Nat) : T7 := fun x1 x6 => uK (run (E sf_ref15_May) h k c15) (s7 x1 x6) (K31 sf_ref15_May k)
abbrev l7 (sf_ref15_May : ((D0) × ((Option N1) × (Unit))) → Option ((Bool) × (Unit))) (k : Nat) : T7 := fun x1 x6 => cutK (run (E sf_ref15_May) h k c15) (s7 x1 x6) (K31 sf_ref15_May k)
abbrev s5 := fun x1 x6 x7 m2 m5 => ({ vars := [(1, .v (.ptr 1) .ro x1), (2, .addr (.mem 2) []), (5, .addr (.mem 5) []), (6, .v (.int .i64) .ro x6), (7, .v (.int .i64) .ro x7)], scr := [], mems := [(2, ⟨ty0, .ro, m2⟩), (5, ⟨(.agg (.pair (.int .i64) (.slice 3 (.int .i64)))), .ro, m5⟩)] } : ST cx)
def u5 (sf_ref15_May : ((D0) × ((Option N1) × (Unit))) → Option ((Bool) × (Unit))) (k n5 : Nat) : T5 := fun x1 x6 x7 m2 m5 => uK (loopL (E sf_ref15_May) h k c17 (K35 sf_ref15_May k) n5) (s5 x1 x6 x7 m2 m5) ()
abbrev l5 (sf_ref15_May : ((D0) × ((Option N1) × (Unit))) → Option ((Bool) × (Unit))) (k n5 : Nat) : T5 := fun x1 x6 x7 m2 m5 => cutK (loopL (E sf_ref15_May) h k c17 (K35 sf_ref15_May k) n5) (s5 x1 x6 x7 m2 m5) ()
abbrev s4 := fun x1 m2 m5 => ({ vars := [(1, .v (.ptr 1) .ro x1), (2, .addr (.mem 2) []), (5, .addr (.mem 5) [])], scr := [], mems := [(2, ⟨ty0, .ro, m2⟩), (5, ⟨(.agg (.pair (.int .i64) (.slice 3 (.int .i64)))), .ro, m5⟩)] } : ST cx)
def u4 (sf_ref15_May : ((D0) × ((Option N1) × (Unit))) → Option ((Bool) × (Unit))) (k : Nat) : T4 := fun x1 m2 m5 => uK (run (E sf_ref15_May) h k c11) (s4 x1 m2 m5) (K23 sf_ref15_May k)
abbrev l4 (sf_ref15_May : ((D0) × ((Option N1) × (Unit))) → Option ((Bool) × (Unit))) (k : Nat) : T4 := fun x1 m2 m5 => cutK (run (E sf_ref15_May) h k c11) (s4 x1 m2 m5) (K23 sf_ref15_May k)
abbrev s3 := fun x1 x91 m2 m5 => ({ vars := [(1, .v (.ptr 1) .ro x1), (2, .addr (.mem 2) []), (5, .addr (.mem 5) []), (91, .v .bool .ro x91)], scr := [], mems := [(2, ⟨ty0, .ro, m2⟩), (5, ⟨(.agg (.pair (.int .i64) (.slice 3 (.int .i64)))), .ro, m5⟩)] } : ST cx)
def u3 (sf_ref15_May : ((D0) × ((Option N1) × (Unit))) → Option ((Bool) × (Unit))) (k : Nat) : T3 := fun x1 x91 m2 m5 => uK (run (E sf_ref15_May) h k c12) (s3 x1 x91 m2 m5) (K25 sf_ref15_May k)
abbrev l3 (sf_ref15_May : ((D0) × ((Option N1) × (Unit))) → Option ((Bool) × (Unit))) (k : Nat) : T3 := fun x1 x91 m2 m5 => cutK (run (E sf_ref15_May) h k c12) (s3 x1 x91 m2 m5) (K25 sf_ref15_May k)
abbrev s2 := fun x1 m2 => ({ vars := [(1, .v (.ptr 1) .ro x1), (2, .addr (.mem 2) [])], scr := [], mems := [(2, ⟨ty0, .ro, m2⟩)] } : ST cx)
def u2 (sf_ref15_May : ((D0) × ((Option N1) × (Unit))) → Option ((Bool) × (Unit))) (k : Nat) : T2 := fun x1 m2 => uK (run (E sf_ref15_May) h k c7) (s2 x1 m2) (K15 sf_ref15_May k)
abbrev l2 (sf_ref15_May : ((D0) × ((Option N1) × (Unit))) → Option ((Bool) × (Unit))) (k : Nat) : T2 := fun x1 m2 => cutK (run (E sf_ref15_May) h k c7) (s2 x1 m2) (K15 sf_ref15_May k)
abbrev s1 := fun x1 x65 m2 => ({ vars := [(1, .v (.ptr 1) .ro x1), (2, .addr (.mem 2) []), (65, .v .bool .ro x65)], scr := [], mems := [(2, ⟨ty0, .ro, m2⟩)] } : ST cx)
def u1 (sf_ref15_May : ((D0) × ((Option N1) × (Unit))) → Option ((Bool) × (Unit))) (k : Nat) : T1 := fun x1 x65 m2 => uK (run (E sf_ref15_May) h k c8) (s1 x1 x65 m2) (K17 sf_ref15_May k)
abbrev l1 (sf_ref15_May : ((D0) × ((Option N1) × (Unit))) → Option ((Bool) × (Unit))) (k : Nat) : T1 := fun x1 x65 m2 => cutK (run (E sf_ref15_May) h k c8) (s1 x1 x65 m2) (K17 sf_ref15_May k)
def u0 (sf_ref15_May : ((D0) × ((Option N1) × (Unit))) → Option ((Bool) × (Unit))) (k : Nat) : T0 := fun x0 x1 => runOf (S := cx) (E sf_ref15_May) h k Try.f16 [.val ty0, .val (.ptr 1)] .bool .ro (x0, x1, ())
def t9 (sf_ref15_May : ((D0) × ((Option N1) × (Unit))) → Option ((Bool) × (Unit))) (f5 : T5) : T9 := fun x1 x6 x7 m2 m5 => 
  (f5 x1 x6 (w64 (x7 + (1 : Int))) m2 m5)
theorem e9 (sf_ref15_May : ((D0) × ((Option N1) × (Unit))) → Option ((Bool) × (Unit))) (k n5 : Nat) : u9 sf_ref15_May k n5 = t9 sf_ref15_May (l5 sf_ref15_May k n5) := by kernel_rfl
theorem g9 (sf_ref15_May : ((D0) × ((Option N1) × (Unit))) → Option ((Bool) × (Unit))) (k n5 : Nat) : l9 sf_ref15_May k n5 = u9 sf_ref15_May k n5 := funext fun _ => funext fun _ => funext fun _ => funext fun _ => funext fun _ => cut_u _ _ _
theorem d9 (sf_ref15_May : ((D0) × ((Option N1) × (Unit))) → Option ((Bool) × (Unit))) {x5 y5 : T5} (h5 : x5 = y5) : t9 sf_ref15_May x5 = t9 sf_ref15_May y5 := by subst h5; rfl
def p9 (sf_ref15_May : ((D0) × ((Option N1) × (Unit))) → Option ((Bool) × (Unit))) (k : Nat) (a5 : T5) : T9 := t9 sf_ref15_May a5
theorem o9 (sf_ref15_May : ((D0) × ((Option N1) × (Unit))) → Option ((Bool) × (Unit))) (k n5 : Nat) (a5 : T5) (h5 : l5 sf_ref15_May k n5 = a5) : l9 sf_ref15_May k n5 = p9 sf_ref15_May k a5 := (Eq.trans (b := u9 sf_ref15_May k n5) (g9 sf_ref15_May k n5) (Eq.trans (b := t9 sf_ref15_May (l5 sf_ref15_May k n5)) (e9 sf_ref15_May k n5) (Eq.trans (b := t9 sf_ref15_May a5) (d9 sf_ref15_May h5) (by kernel_rfl))))
def t8 (sf_ref15_May : ((D0) × ((Option N1) × (Unit))) → Option ((Bool) × (Unit))) (f9 : T9) : T8 := fun x1 x6 x7 m2 m5 => 
  (bindR x1 fun z21 => (withinR x7 (List.length (out1 z21).2.2.2.1) fun q22 => (bindR (List.getD (out1 z21).2.2.2.1 q22 none) fun z23 => (f9 x1 (w64 (x6 + (out1 z23).2.2.2.2.1)) x7 m2 m5))))
theorem e8 (sf_ref15_May : ((D0) × ((Option N1) × (Unit))) → Option ((Bool) × (Unit))) (k n5 : Nat) : u8 sf_ref15_May k n5 = t8 sf_ref15_May (l9 sf_ref15_May k n5) := by kernel_rfl
theorem g8 (sf_ref15_May : ((D0) × ((Option N1) × (Unit))) → Option ((Bool) × (Unit))) (k n5 : Nat) : l8 sf_ref15_May k n5 = u8 sf_ref15_May k n5 := funext fun _ => funext fun _ => funext fun _ => funext fun _ => funext fun _ => cut_u _ _ _
theorem d8 (sf_ref15_May : ((D0) × ((Option N1) × (Unit))) → Option ((Bool) × (Unit))) {x9 y9 : T9} (h9 : x9 = y9) : t8 sf_ref15_May x9 = t8 sf_ref15_May y9 := by subst h9; rfl
def p8 (sf_ref15_May : ((D0) × ((Option N1) × (Unit))) → Option ((Bool) × (Unit))) (k : Nat) (a5 : T5) : T8 := t8 sf_ref15_May (p9 sf_ref15_May k a5)
theorem o8 (sf_ref15_May : ((D0) × ((Option N1) × (Unit))) → Option ((Bool) × (Unit))) (k n5 : Nat) (a5 : T5) (h5 : l5 sf_ref15_May k n5 = a5) : l8 sf_ref15_May k n5 = p8 sf_ref15_May k a5 := (Eq.trans (b := u8 sf_ref15_May k n5) (g8 sf_ref15_May k n5) (Eq.trans (b := t8 sf_ref15_May (l9 sf_ref15_May k n5)) (e8 sf_ref15_May k n5) (Eq.trans (b := t8 sf_ref15_May (p9 sf_ref15_May k a5)) (d8 sf_ref15_May (o9 sf_ref15_May k n5 a5 h5)) (by kernel_rfl))))
def t6 (sf_ref15_May : ((D0) × ((Option N1) × (Unit))) → Option ((Bool) × (Unit))) (f8 : T8) : T6 := fun x1 x6 x7 x128 m2 m5 => 
  (iteB x128 (some (false, ())) (f8 x1 x6 x7 m2 m5))
theorem e6 (sf_ref15_May : ((D0) × ((Option N1) × (Unit))) → Option ((Bool) × (Unit))) (k n5 : Nat) : u6 sf_ref15_May k n5 = t6 sf_ref15_May (l8 sf_ref15_May k n5) := by kernel_rfl
theorem g6 (sf_ref15_May : ((D0) × ((Option N1) × (Unit))) → Option ((Bool) × (Unit))) (k n5 : Nat) : l6 sf_ref15_May k n5 = u6 sf_ref15_May k n5 := funext fun _ => funext fun _ => funext fun _ => funext fun _ => funext fun _ => funext fun _ => cut_u _ _ _
theorem d6 (sf_ref15_May : ((D0) × ((Option N1) × (Unit))) → Option ((Bool) × (Unit))) {x8 y8 : T8} (h8 : x8 = y8) : t6 sf_ref15_May x8 = t6 sf_ref15_May y8 := by subst h8; rfl
def p6 (sf_ref15_May : ((D0) × ((Option N1) × (Unit))) → Option ((Bool) × (Unit))) (k : Nat) (a5 : T5) : T6 := t6 sf_ref15_May (p8 sf_ref15_May k a5)
theorem o6 (sf_ref15_May : ((D0) × ((Option N1) × (Unit))) → Option ((Bool) × (Unit))) (k n5 : Nat) (a5 : T5) (h5 : l5 sf_ref15_May k n5 = a5) : l6 sf_ref15_May k n5 = p6 sf_ref15_May k a5 := (Eq.trans (b := u6 sf_ref15_May k n5) (g6 sf_ref15_May k n5) (Eq.trans (b := t6 sf_ref15_May (l8 sf_ref15_May k n5)) (e6 sf_ref15_May k n5) (Eq.trans (b := t6 sf_ref15_May (p8 sf_ref15_May k a5)) (d6 sf_ref15_May (o8 sf_ref15_May k n5 a5 h5)) (by kernel_rfl))))
def t7 (sf_ref15_May : ((D0) × ((Option N1) × (Unit))) → Option ((Bool) × (Unit))) : T7 := fun x1 x6 => 
  (bindR x1 fun z24 => (some ((decide ((out1 z24).2.2.2.2.1 = x6)), ())))
theorem e7 (sf_ref15_May : ((D0) × ((Option N1) × (Unit))) → Option ((Bool) × (Unit))) (k : Nat) : u7 sf_ref15_May k = t7 sf_ref15_May := by kernel_rfl
theorem g7 (sf_ref15_May : ((D0) × ((Option N1) × (Unit))) → Option ((Bool) × (Unit))) (k : Nat) : l7 sf_ref15_May k = u7 sf_ref15_May k := funext fun _ => funext fun _ => cut_u _ _ _
def p7 (sf_ref15_May : ((D0) × ((Option N1) × (Unit))) → Option ((Bool) × (Unit))) (k : Nat) : T7 := t7 sf_ref15_May
theorem o7 (sf_ref15_May : ((D0) × ((Option N1) × (Unit))) → Option ((Bool) × (Unit))) (k : Nat) : l7 sf_ref15_May k = p7 sf_ref15_May k := (Eq.trans (b := u7 sf_ref15_May k) (g7 sf_ref15_May k) (Eq.trans (b := t7 sf_ref15_May) (e7 sf_ref15_May k) (by kernel_rfl)))
def t5 (sf_ref15_May : ((D0) × ((Option N1) × (Unit))) → Option ((Bool) × (Unit))) (f6 : T6) (f7 : T7) : T5 := fun x1 x6 x7 m2 m5 => 
  (bindR x1 fun z13 => (iteB (decide (x7 < ((List.length (out1 z13).2.2.2.1 : Nat) : Int))) (bindR x1 fun z14 => (withinR x7 (List.length (out1 z14).2.2.2.1) fun q15 => (bindR (sf_ref15_May (m2, ((List.getD (out1 z14).2.2.2.1 q15 none), ()))) fun r16 => (iteB (notB r16.1) (f6 x1 x6 x7 true m2 m5) (bindR x1 fun z17 => (withinR x7 (List.length (out1 z17).2.2.2.1) fun q18 => (bindR (List.getD (out1 z17).2.2.2.1 q18 none) fun z19 => (withinR x7 (List.length m5.2) fun q20 => (f6 x1 x6 x7 (!decide ((out1 z19).1 = (List.getD m5.2 q20 (0 : Int)))) m2 m5))))))))) (f7 x1 x6)))
theorem e5 (sf_ref15_May : ((D0) × ((Option N1) × (Unit))) → Option ((Bool) × (Unit))) (k n5 : Nat) : u5 sf_ref15_May k (n5 + 1) = t5 sf_ref15_May (l6 sf_ref15_May k n5) (l7 sf_ref15_May k) := by kernel_rfl
theorem g5 (sf_ref15_May : ((D0) × ((Option N1) × (Unit))) → Option ((Bool) × (Unit))) (k n5 : Nat) : l5 sf_ref15_May k (n5 + 1) = u5 sf_ref15_May k (n5 + 1) := funext fun _ => funext fun _ => funext fun _ => funext fun _ => funext fun _ => cut_u _ _ _
theorem d5 (sf_ref15_May : ((D0) × ((Option N1) × (Unit))) → Option ((Bool) × (Unit))) {x6 y6 : T6} {x7 y7 : T7} (h6 : x6 = y6) (h7 : x7 = y7) : t5 sf_ref15_May x6 x7 = t5 sf_ref15_May y6 y7 := by subst h6; subst h7; rfl
def p5 (sf_ref15_May : ((D0) × ((Option N1) × (Unit))) → Option ((Bool) × (Unit))) (k : Nat) : Nat → T5
  | 0 => fun _ _ _ _ _ => none
  | n5 + 1 => t5 sf_ref15_May (p6 sf_ref15_May k (p5 sf_ref15_May k n5)) (p7 sf_ref15_May k)
theorem o5 (sf_ref15_May : ((D0) × ((Option N1) × (Unit))) → Option ((Bool) × (Unit))) (k : Nat) : ∀ n5, l5 sf_ref15_May k n5 = p5 sf_ref15_May k n5 := by
  intro n5
  induction n5 with
  | zero => kernel_rfl
  | succ n5 ih => exact (Eq.trans (b := u5 sf_ref15_May k (n5 + 1)) (g5 sf_ref15_May k n5) (Eq.trans (b := t5 sf_ref15_May (l6 sf_ref15_May k n5) (l7 sf_ref15_May k)) (e5 sf_ref15_May k n5) (Eq.trans (b := t5 sf_ref15_May (p6 sf_ref15_May k (p5 sf_ref15_May k n5)) (p7 sf_ref15_May k)) (d5 sf_ref15_May (o6 sf_ref15_May k n5 (p5 sf_ref15_May k n5) ih) (o7 sf_ref15_May k)) (by kernel_rfl))))
def t4 (sf_ref15_May : ((D0) × ((Option N1) × (Unit))) → Option ((Bool) × (Unit))) (f5 : T5) : T4 := fun x1 m2 m5 => 
  (f5 x1 (0 : Int) (0 : Int) m2 m5)
theorem e4 (sf_ref15_May : ((D0) × ((Option N1) × (Unit))) → Option ((Bool) × (Unit))) (k : Nat) : u4 sf_ref15_May k = t4 sf_ref15_May (l5 sf_ref15_May k k) := by kernel_rfl
theorem g4 (sf_ref15_May : ((D0) × ((Option N1) × (Unit))) → Option ((Bool) × (Unit))) (k : Nat) : l4 sf_ref15_May k = u4 sf_ref15_May k := funext fun _ => funext fun _ => funext fun _ => cut_u _ _ _
theorem d4 (sf_ref15_May : ((D0) × ((Option N1) × (Unit))) → Option ((Bool) × (Unit))) {x5 y5 : T5} (h5 : x5 = y5) : t4 sf_ref15_May x5 = t4 sf_ref15_May y5 := by subst h5; rfl
def p4 (sf_ref15_May : ((D0) × ((Option N1) × (Unit))) → Option ((Bool) × (Unit))) (k : Nat) : T4 := t4 sf_ref15_May (p5 sf_ref15_May k k)
theorem o4 (sf_ref15_May : ((D0) × ((Option N1) × (Unit))) → Option ((Bool) × (Unit))) (k : Nat) : l4 sf_ref15_May k = p4 sf_ref15_May k := (Eq.trans (b := u4 sf_ref15_May k) (g4 sf_ref15_May k) (Eq.trans (b := t4 sf_ref15_May (l5 sf_ref15_May k k)) (e4 sf_ref15_May k) (Eq.trans (b := t4 sf_ref15_May (p5 sf_ref15_May k k)) (d4 sf_ref15_May (o5 sf_ref15_May k k)) (by kernel_rfl))))
def t3 (sf_ref15_May : ((D0) × ((Option N1) × (Unit))) → Option ((Bool) × (Unit))) (f4 : T4) : T3 := fun x1 x91 m2 m5 => 
  (iteB x91 (some (false, ())) (f4 x1 m2 m5))
theorem e3 (sf_ref15_May : ((D0) × ((Option N1) × (Unit))) → Option ((Bool) × (Unit))) (k : Nat) : u3 sf_ref15_May k = t3 sf_ref15_May (l4 sf_ref15_May k) := by kernel_rfl
theorem g3 (sf_ref15_May : ((D0) × ((Option N1) × (Unit))) → Option ((Bool) × (Unit))) (k : Nat) : l3 sf_ref15_May k = u3 sf_ref15_May k := funext fun _ => funext fun _ => funext fun _ => funext fun _ => cut_u _ _ _
theorem d3 (sf_ref15_May : ((D0) × ((Option N1) × (Unit))) → Option ((Bool) × (Unit))) {x4 y4 : T4} (h4 : x4 = y4) : t3 sf_ref15_May x4 = t3 sf_ref15_May y4 := by subst h4; rfl
def p3 (sf_ref15_May : ((D0) × ((Option N1) × (Unit))) → Option ((Bool) × (Unit))) (k : Nat) : T3 := t3 sf_ref15_May (p4 sf_ref15_May k)
theorem o3 (sf_ref15_May : ((D0) × ((Option N1) × (Unit))) → Option ((Bool) × (Unit))) (k : Nat) : l3 sf_ref15_May k = p3 sf_ref15_May k := (Eq.trans (b := u3 sf_ref15_May k) (g3 sf_ref15_May k) (Eq.trans (b := t3 sf_ref15_May (l4 sf_ref15_May k)) (e3 sf_ref15_May k) (Eq.trans (b := t3 sf_ref15_May (p4 sf_ref15_May k)) (d3 sf_ref15_May (o4 sf_ref15_May k)) (by kernel_rfl))))
def t2 (sf_ref15_May : ((D0) × ((Option N1) × (Unit))) → Option ((Bool) × (Unit))) (f3 : T3) : T2 := fun x1 m2 => 
  (bindR x1 fun z9 => (withinR ((out1 z9).2.1) (List.length m2.2.2.2.1) fun q10 => (bindR x1 fun z11 => (iteB (!decide ((out1 z11).1 = (List.getD m2.2.2.2.1 q10 ((0 : Int), ([] : List (Int)))).1)) (f3 x1 true m2 (List.getD m2.2.2.2.1 q10 ((0 : Int), ([] : List (Int))))) (bindR x1 fun z12 => (f3 x1 (!decide (((List.length (out1 z12).2.2.2.1 : Nat) : Int) = ((List.length (List.getD m2.2.2.2.1 q10 ((0 : Int), ([] : List (Int)))).2 : Nat) : Int))) m2 (List.getD m2.2.2.2.1 q10 ((0 : Int), ([] : List (Int))))))))))
theorem e2 (sf_ref15_May : ((D0) × ((Option N1) × (Unit))) → Option ((Bool) × (Unit))) (k : Nat) : u2 sf_ref15_May k = t2 sf_ref15_May (l3 sf_ref15_May k) := by kernel_rfl
theorem g2 (sf_ref15_May : ((D0) × ((Option N1) × (Unit))) → Option ((Bool) × (Unit))) (k : Nat) : l2 sf_ref15_May k = u2 sf_ref15_May k := funext fun _ => funext fun _ => cut_u _ _ _
theorem d2 (sf_ref15_May : ((D0) × ((Option N1) × (Unit))) → Option ((Bool) × (Unit))) {x3 y3 : T3} (h3 : x3 = y3) : t2 sf_ref15_May x3 = t2 sf_ref15_May y3 := by subst h3; rfl
def p2 (sf_ref15_May : ((D0) × ((Option N1) × (Unit))) → Option ((Bool) × (Unit))) (k : Nat) : T2 := t2 sf_ref15_May (p3 sf_ref15_May k)
theorem o2 (sf_ref15_May : ((D0) × ((Option N1) × (Unit))) → Option ((Bool) × (Unit))) (k : Nat) : l2 sf_ref15_May k = p2 sf_ref15_May k := (Eq.trans (b := u2 sf_ref15_May k) (g2 sf_ref15_May k) (Eq.trans (b := t2 sf_ref15_May (l3 sf_ref15_May k)) (e2 sf_ref15_May k) (Eq.trans (b := t2 sf_ref15_May (p3 sf_ref15_May k)) (d2 sf_ref15_May (o3 sf_ref15_May k)) (by kernel_rfl))))
def t1 (sf_ref15_May : ((D0) × ((Option N1) × (Unit))) → Option ((Bool) × (Unit))) (f2 : T2) : T1 := fun x1 x65 m2 => 
  (iteB x65 (some (false, ())) (f2 x1 m2))
theorem e1 (sf_ref15_May : ((D0) × ((Option N1) × (Unit))) → Option ((Bool) × (Unit))) (k : Nat) : u1 sf_ref15_May k = t1 sf_ref15_May (l2 sf_ref15_May k) := by kernel_rfl
theorem g1 (sf_ref15_May : ((D0) × ((Option N1) × (Unit))) → Option ((Bool) × (Unit))) (k : Nat) : l1 sf_ref15_May k = u1 sf_ref15_May k := funext fun _ => funext fun _ => funext fun _ => cut_u _ _ _
theorem d1 (sf_ref15_May : ((D0) × ((Option N1) × (Unit))) → Option ((Bool) × (Unit))) {x2 y2 : T2} (h2 : x2 = y2) : t1 sf_ref15_May x2 = t1 sf_ref15_May y2 := by subst h2; rfl
def p1 (sf_ref15_May : ((D0) × ((Option N1) × (Unit))) → Option ((Bool) × (Unit))) (k : Nat) : T1 := t1 sf_ref15_May (p2 sf_ref15_May k)
theorem o1 (sf_ref15_May : ((D0) × ((Option N1) × (Unit))) → Option ((Bool) × (Unit))) (k : Nat) : l1 sf_ref15_May k = p1 sf_ref15_May k := (Eq.trans (b := u1 sf_ref15_May k) (g1 sf_ref15_May k) (Eq.trans (b := t1 sf_ref15_May (l2 sf_ref15_May k)) (e1 sf_ref15_May k) (Eq.trans (b := t1 sf_ref15_May (p2 sf_ref15_May k)) (d1 sf_ref15_May (o2 sf_ref15_May k)) (by kernel_rfl))))
def t0 (sf_ref15_May : ((D0) × ((Option N1) × (Unit))) → Option ((Bool) × (Unit))) (f1 : T1) : T0 := fun x0 x1 => 
  (iteB (Option.isNone x1) (some (false, ())) (bindR x1 fun z1 => (iteB (decide ((out1 z1).2.1 = (-1 : Int))) (bindR x1 fun z2 => (iteB (decide ((0 : Int) ≤ (out1 z2).1)) (bindR x1 fun z3 => (iteB (decide ((out1 z3).1 < x0.2.1)) (bindR x1 fun z4 => (iteB (decide (((List.length (out1 z4).2.2.2.1 : Nat) : Int) = (0 : Int))) (bindR x1 fun z5 => (some ((decide ((out1 z5).2.2.2.2.1 = (1 : Int))), ()))) (some (false, ())))) (some (false, ())))) (some (false, ())))) (bindR x1 fun z6 => (iteB (decide ((out1 z6).2.1 < (0 : Int))) (f1 x1 true x0) (bindR x1 fun z7 => (iteB (decide (((List.length x0.2.2.2.1 : Nat) : Int) ≤ (out1 z7).2.1)) (f1 x1 true x0) (bindR x1 fun z8 => (f1 x1 (!(decide ((out1 z8).2.2.1 = ([] : List UInt8)))) x0)))))))))
theorem e0 (sf_ref15_May : ((D0) × ((Option N1) × (Unit))) → Option ((Bool) × (Unit))) (k : Nat) : u0 sf_ref15_May k = t0 sf_ref15_May (l1 sf_ref15_May k) := by kernel_rfl
theorem d0 (sf_ref15_May : ((D0) × ((Option N1) × (Unit))) → Option ((Bool) × (Unit))) {x1 y1 : T1} (h1 : x1 = y1) : t0 sf_ref15_May x1 = t0 sf_ref15_May y1 := by subst h1; rfl
def p0 (sf_ref15_May : ((D0) × ((Option N1) × (Unit))) → Option ((Bool) × (Unit))) (k : Nat) : T0 := t0 sf_ref15_May (p1 sf_ref15_May k)
theorem o0 (sf_ref15_May : ((D0) × ((Option N1) × (Unit))) → Option ((Bool) × (Unit))) (k : Nat) : u0 sf_ref15_May k = p0 sf_ref15_May k := (Eq.trans (b := t0 sf_ref15_May (l1 sf_ref15_May k)) (e0 sf_ref15_May k) (Eq.trans (b := t0 sf_ref15_May (p1 sf_ref15_May k)) (d0 sf_ref15_May (o1 sf_ref15_May k)) (by kernel_rfl)))
end ref15_May
def r_ref15_May : Nat → ((D0) × ((Option N1) × (Unit))) → Option ((Bool) × (Unit))
  | 0, _ => none
  | n + 1, a => ref15_May.p0 (r_ref15_May n) (fuel) a.1 a.2.1
theorem okr_ref15_May : ∀ n, FnOk Try.prog (Fr_ref15_May (r_ref15_May n)) 16
  | 0 => fn_none (fun _ => rfl)
  | n + 1 => fn_of (F := Fr_ref15_May (r_ref15_May (n + 1))) (hn := ref15_May.h) (E := ref15_May.E (r_ref15_May n)) cxOk (tysT _ _) (fs_cons (okr_ref15_May n) fs_nil) follows Try.func16 (by kernel_rfl) (fun a r h => ⟨fuel, Eq.trans (c := some r) (congrFun (congrFun (ref15_May.o0 (r_ref15_May n) (fuel)) a.1) a.2.1) h⟩)
def s_ref15_May (a : (D0) × ((Option N1) × (Unit))) : Option ((Bool) × (Unit)) := r_ref15_May (fuel) a
def F_ref15_May : FSpec cx.toNm := Fr_ref15_May s_ref15_May
theorem ok_ref15_May : FnOk Try.prog F_ref15_May 16 := fun w Z own vs a r h1 h2 h3 h4 => (okr_ref15_May (fuel)) w Z own vs a r h1 h2 h3 h4
namespace ref15_Right
def E : Env cx := { tys := tys, fs := fsOf [(12, F_ref11_Right), (16, F_ref15_May)] }
abbrev R := Option ((Bool) × (Unit))
abbrev C := Exit → ST cx → R
noncomputable def b : Code := bodyC Try.f20
def h : Hint := { vs := [0, 1, 2, 4], nil := [], cuts := [], ret := ([4], [2]), ords := [] }
abbrev T0 := D0 → (Option N1) → R
def u0 (k : Nat) : T0 := fun x0 x1 => runOf (S := cx) E h k Try.f20 [.val ty0, .val (.ptr 1)] .bool .ro (x0, x1, ())
def t0 : T0 := fun x0 x1 => 
  (bindR (s_ref11_Right (x0, ())) fun r1 => (iteB r1.1 (bindR (s_ref15_May (x0, (x1, ()))) fun r2 => (some (r2.1, ()))) (some (false, ()))))
theorem e0 (k : Nat) : u0 k = t0 := by kernel_rfl
def p0 (k : Nat) : T0 := t0
theorem o0 (k : Nat) : u0 k = p0 k := (Eq.trans (b := t0) (e0 k) (by kernel_rfl))
end ref15_Right
def s_ref15_Right (a : (D0) × ((Option N1) × (Unit))) : Option ((Bool) × (Unit)) := ref15_Right.p0 (fuel) a.1 a.2.1
def F_ref15_Right : FSpec cx.toNm := { ps := [.val ty0, .val (.ptr 1)], nres := 1, rt := .bool, rm := .ro, f := s_ref15_Right }
theorem w_ref15_Right (a : (D0) × ((Option N1) × (Unit))) : runOf (S := cx) ref15_Right.E ref15_Right.h (fuel) Try.f20 F_ref15_Right.ps F_ref15_Right.rt F_ref15_Right.rm a = F_ref15_Right.f a := Eq.trans (b := ref15_Right.u0 (fuel) a.1 a.2.1) (by kernel_rfl) (Eq.trans (b := ref15_Right.p0 (fuel) a.1 a.2.1) (congrFun (congrFun (ref15_Right.o0 (fuel)) a.1) a.2.1) (by kernel_rfl))
theorem ok_ref15_Right : FnOk Try.prog F_ref15_Right 20 := fn_of (hn := ref15_Right.h) (E := ref15_Right.E) cxOk (tysT _ _) (fs_cons ok_ref11_Right (fs_cons ok_ref15_May fs_nil)) follows Try.func20 (by kernel_rfl) (fun a r h => ⟨fuel, Eq.trans (w_ref15_Right a) h⟩)
def Fr_ref15_Same (f : ((Option N1) × ((Option N1) × (Unit))) → Option ((Bool) × (Unit))) : FSpec cx.toNm := { ps := [.val (.ptr 1), .val (.ptr 1)], nres := 1, rt := .bool, rm := .ro, f := f }
namespace ref15_Same
def E (sf_ref15_Same : ((Option N1) × ((Option N1) × (Unit))) → Option ((Bool) × (Unit))) : Env cx := { tys := tys, fs := fsOf [(17, (Fr_ref15_Same sf_ref15_Same))] }
abbrev R := Option ((Bool) × (Unit))
abbrev C := Exit → ST cx → R
noncomputable def b : Code := bodyC Try.f17
def h : Hint := { vs := [0, 1, 4, 5], nil := [], cuts := [(2, ([0, 1, 11], []), ([0, 1], [])), (3, ([0, 1], []), ([0, 1], [])), (4, ([0, 1, 61], []), ([0, 1], [])), (5, ([0, 1], []), ([0, 1], [])), (6, ([0, 1, 5], []), ([], [])), (10, ([], []), ([], []))], ret := ([4], []), ords := [] }
def K0 (sf_ref15_Same : ((Option N1) × ((Option N1) × (Unit))) → Option ((Bool) × (Unit))) : C := fin (S := cx) (E sf_ref15_Same) Try.f17.results.toList .bool .ro [] []
def c0 : Code := subC b [1]
def K1 (sf_ref15_Same : ((Option N1) × ((Option N1) × (Unit))) → Option ((Bool) × (Unit))) (k : Nat) : C := outD h c0 (K0 sf_ref15_Same)
def c1 : Code := subC b [1, 1]
def K3 (sf_ref15_Same : ((Option N1) × ((Option N1) × (Unit))) → Option ((Bool) × (Unit))) (k : Nat) : C := outD h c1 (K1 sf_ref15_Same k)
def K4 (sf_ref15_Same : ((Option N1) × ((Option N1) × (Unit))) → Option ((Bool) × (Unit))) (k : Nat) : C := seqC (E sf_ref15_Same) h k c1 (K1 sf_ref15_Same k)
def c2 : Code := subC b [1, 0, 1]
def K5 (sf_ref15_Same : ((Option N1) × ((Option N1) × (Unit))) → Option ((Bool) × (Unit))) (k : Nat) : C := outD h c2 (K4 sf_ref15_Same k)
def c4 : Code := subC b [1, 1, 1]
def K9 (sf_ref15_Same : ((Option N1) × ((Option N1) × (Unit))) → Option ((Bool) × (Unit))) (k : Nat) : C := outD h c4 (K3 sf_ref15_Same k)
def K10 (sf_ref15_Same : ((Option N1) × ((Option N1) × (Unit))) → Option ((Bool) × (Unit))) (k : Nat) : C := seqC (E sf_ref15_Same) h k c4 (K3 sf_ref15_Same k)
def c5 : Code := subC b [1, 1, 0, 1]
def K11 (sf_ref15_Same : ((Option N1) × ((Option N1) × (Unit))) → Option ((Bool) × (Unit))) (k : Nat) : C := outD h c5 (K10 sf_ref15_Same k)
def c7 : Code := subC b [1, 1, 1, 1]
def K15 (sf_ref15_Same : ((Option N1) × ((Option N1) × (Unit))) → Option ((Bool) × (Unit))) (k : Nat) : C := outD h c7 (K9 sf_ref15_Same k)
def K16 (sf_ref15_Same : ((Option N1) × ((Option N1) × (Unit))) → Option ((Bool) × (Unit))) (k : Nat) : C := seqC (E sf_ref15_Same) h k c7 (K9 sf_ref15_Same k)
def c8 : Code := subC b [1, 1, 1, 0, 1]
def K17 (sf_ref15_Same : ((Option N1) × ((Option N1) × (Unit))) → Option ((Bool) × (Unit))) (k : Nat) : C := outD h c8 (K16 sf_ref15_Same k)
def K19 (sf_ref15_Same : ((Option N1) × ((Option N1) × (Unit))) → Option ((Bool) × (Unit))) (k : Nat) : C := blockK 0 (K17 sf_ref15_Same k)
def c9 : Code := subC b [1, 1, 1, 0, 1, 0, 0]
abbrev T6 := R
abbrev T5 := (Option N1) → (Option N1) → Int → R
abbrev T4 := (Option N1) → (Option N1) → R
abbrev T3 := (Option N1) → (Option N1) → Bool → R
abbrev T2 := (Option N1) → (Option N1) → R
abbrev T1 := (Option N1) → (Option N1) → Bool → R
abbrev T0 := (Option N1) → (Option N1) → R
abbrev s6 : ST cx := ({ vars := [], scr := [], mems := [] } : ST cx)
def u6 (sf_ref15_Same : ((Option N1) × ((Option N1) × (Unit))) → Option ((Bool) × (Unit))) (k : Nat) : T6 := uK (run (E sf_ref15_Same) h k c7) s6 (K15 sf_ref15_Same k)
abbrev l6 (sf_ref15_Same : ((Option N1) × ((Option N1) × (Unit))) → Option ((Bool) × (Unit))) (k : Nat) : T6 := cutK (run (E sf_ref15_Same) h k c7) s6 (K15 sf_ref15_Same k)
abbrev s5 := fun x0 x1 x5 => ({ vars := [(0, .v (.ptr 1) .ro x0), (1, .v (.ptr 1) .ro x1), (5, .v (.int .i64) .ro x5)], scr := [], mems := [] } : ST cx)
def u5 (sf_ref15_Same : ((Option N1) × ((Option N1) × (Unit))) → Option ((Bool) × (Unit))) (k n5 : Nat) : T5 := fun x0 x1 x5 => uK (loopL (E sf_ref15_Same) h k c9 (K19 sf_ref15_Same k) n5) (s5 x0 x1 x5) ()
abbrev l5 (sf_ref15_Same : ((Option N1) × ((Option N1) × (Unit))) → Option ((Bool) × (Unit))) (k n5 : Nat) : T5 := fun x0 x1 x5 => cutK (loopL (E sf_ref15_Same) h k c9 (K19 sf_ref15_Same k) n5) (s5 x0 x1 x5) ()
abbrev s4 := fun x0 x1 => ({ vars := [(0, .v (.ptr 1) .ro x0), (1, .v (.ptr 1) .ro x1)], scr := [], mems := [] } : ST cx)
def u4 (sf_ref15_Same : ((Option N1) × ((Option N1) × (Unit))) → Option ((Bool) × (Unit))) (k : Nat) : T4 := fun x0 x1 => uK (run (E sf_ref15_Same) h k c4) (s4 x0 x1) (K9 sf_ref15_Same k)
abbrev l4 (sf_ref15_Same : ((Option N1) × ((Option N1) × (Unit))) → Option ((Bool) × (Unit))) (k : Nat) : T4 := fun x0 x1 => cutK (run (E sf_ref15_Same) h k c4) (s4 x0 x1) (K9 sf_ref15_Same k)
abbrev s3 := fun x0 x1 x61 => ({ vars := [(0, .v (.ptr 1) .ro x0), (1, .v (.ptr 1) .ro x1), (61, .v .bool .ro x61)], scr := [], mems := [] } : ST cx)
def u3 (sf_ref15_Same : ((Option N1) × ((Option N1) × (Unit))) → Option ((Bool) × (Unit))) (k : Nat) : T3 := fun x0 x1 x61 => uK (run (E sf_ref15_Same) h k c5) (s3 x0 x1 x61) (K11 sf_ref15_Same k)
abbrev l3 (sf_ref15_Same : ((Option N1) × ((Option N1) × (Unit))) → Option ((Bool) × (Unit))) (k : Nat) : T3 := fun x0 x1 x61 => cutK (run (E sf_ref15_Same) h k c5) (s3 x0 x1 x61) (K11 sf_ref15_Same k)
abbrev s2 := fun x0 x1 => ({ vars := [(0, .v (.ptr 1) .ro x0), (1, .v (.ptr 1) .ro x1)], scr := [], mems := [] } : ST cx)
def u2 (sf_ref15_Same : ((Option N1) × ((Option N1) × (Unit))) → Option ((Bool) × (Unit))) (k : Nat) : T2 := fun x0 x1 => uK (run (E sf_ref15_Same) h k c1) (s2 x0 x1) (K3 sf_ref15_Same k)
abbrev l2 (sf_ref15_Same : ((Option N1) × ((Option N1) × (Unit))) → Option ((Bool) × (Unit))) (k : Nat) : T2 := fun x0 x1 => cutK (run (E sf_ref15_Same) h k c1) (s2 x0 x1) (K3 sf_ref15_Same k)
abbrev s1 := fun x0 x1 x11 => ({ vars := [(0, .v (.ptr 1) .ro x0), (1, .v (.ptr 1) .ro x1), (11, .v .bool .ro x11)], scr := [], mems := [] } : ST cx)
def u1 (sf_ref15_Same : ((Option N1) × ((Option N1) × (Unit))) → Option ((Bool) × (Unit))) (k : Nat) : T1 := fun x0 x1 x11 => uK (run (E sf_ref15_Same) h k c2) (s1 x0 x1 x11) (K5 sf_ref15_Same k)
abbrev l1 (sf_ref15_Same : ((Option N1) × ((Option N1) × (Unit))) → Option ((Bool) × (Unit))) (k : Nat) : T1 := fun x0 x1 x11 => cutK (run (E sf_ref15_Same) h k c2) (s1 x0 x1 x11) (K5 sf_ref15_Same k)
def u0 (sf_ref15_Same : ((Option N1) × ((Option N1) × (Unit))) → Option ((Bool) × (Unit))) (k : Nat) : T0 := fun x0 x1 => runOf (S := cx) (E sf_ref15_Same) h k Try.f17 [.val (.ptr 1), .val (.ptr 1)] .bool .ro (x0, x1, ())
def t6 (sf_ref15_Same : ((Option N1) × ((Option N1) × (Unit))) → Option ((Bool) × (Unit))) : T6 := 
  (some (true, ()))
theorem e6 (sf_ref15_Same : ((Option N1) × ((Option N1) × (Unit))) → Option ((Bool) × (Unit))) (k : Nat) : u6 sf_ref15_Same k = t6 sf_ref15_Same := by kernel_rfl
theorem g6 (sf_ref15_Same : ((Option N1) × ((Option N1) × (Unit))) → Option ((Bool) × (Unit))) (k : Nat) : l6 sf_ref15_Same k = u6 sf_ref15_Same k := cut_u _ _ _
def p6 (sf_ref15_Same : ((Option N1) × ((Option N1) × (Unit))) → Option ((Bool) × (Unit))) (k : Nat) : T6 := t6 sf_ref15_Same
theorem o6 (sf_ref15_Same : ((Option N1) × ((Option N1) × (Unit))) → Option ((Bool) × (Unit))) (k : Nat) : l6 sf_ref15_Same k = p6 sf_ref15_Same k := (Eq.trans (b := u6 sf_ref15_Same k) (g6 sf_ref15_Same k) (Eq.trans (b := t6 sf_ref15_Same) (e6 sf_ref15_Same k) (by kernel_rfl)))
def t5 (sf_ref15_Same : ((Option N1) × ((Option N1) × (Unit))) → Option ((Bool) × (Unit))) (f5 : T5) (f6 : T6) : T5 := fun x0 x1 x5 => 
  (bindR x0 fun z9 => (iteB (decide (x5 < ((List.length (out1 z9).2.2.2.1 : Nat) : Int))) (bindR x0 fun z10 => (withinR x5 (List.length (out1 z10).2.2.2.1) fun q11 => (bindR x1 fun z12 => (withinR x5 (List.length (out1 z12).2.2.2.1) fun q13 => (bindR (sf_ref15_Same ((List.getD (out1 z10).2.2.2.1 q11 none), ((List.getD (out1 z12).2.2.2.1 q13 none), ()))) fun r14 => (iteB (notB r14.1) (some (false, ())) (f5 x0 x1 (w64 (x5 + (1 : Int)))))))))) f6))
theorem e5 (sf_ref15_Same : ((Option N1) × ((Option N1) × (Unit))) → Option ((Bool) × (Unit))) (k n5 : Nat) : u5 sf_ref15_Same k (n5 + 1) = t5 sf_ref15_Same (l5 sf_ref15_Same k n5) (l6 sf_ref15_Same k) := by kernel_rfl
theorem g5 (sf_ref15_Same : ((Option N1) × ((Option N1) × (Unit))) → Option ((Bool) × (Unit))) (k n5 : Nat) : l5 sf_ref15_Same k (n5 + 1) = u5 sf_ref15_Same k (n5 + 1) := funext fun _ => funext fun _ => funext fun _ => cut_u _ _ _
theorem d5 (sf_ref15_Same : ((Option N1) × ((Option N1) × (Unit))) → Option ((Bool) × (Unit))) {x5 y5 : T5} {x6 y6 : T6} (h5 : x5 = y5) (h6 : x6 = y6) : t5 sf_ref15_Same x5 x6 = t5 sf_ref15_Same y5 y6 := by subst h5; subst h6; rfl
def p5 (sf_ref15_Same : ((Option N1) × ((Option N1) × (Unit))) → Option ((Bool) × (Unit))) (k : Nat) : Nat → T5
  | 0 => fun _ _ _ => none
  | n5 + 1 => t5 sf_ref15_Same (p5 sf_ref15_Same k n5) (p6 sf_ref15_Same k)
theorem o5 (sf_ref15_Same : ((Option N1) × ((Option N1) × (Unit))) → Option ((Bool) × (Unit))) (k : Nat) : ∀ n5, l5 sf_ref15_Same k n5 = p5 sf_ref15_Same k n5 := by
  intro n5
  induction n5 with
  | zero => kernel_rfl
  | succ n5 ih => exact (Eq.trans (b := u5 sf_ref15_Same k (n5 + 1)) (g5 sf_ref15_Same k n5) (Eq.trans (b := t5 sf_ref15_Same (l5 sf_ref15_Same k n5) (l6 sf_ref15_Same k)) (e5 sf_ref15_Same k n5) (Eq.trans (b := t5 sf_ref15_Same (p5 sf_ref15_Same k n5) (p6 sf_ref15_Same k)) (d5 sf_ref15_Same ih (o6 sf_ref15_Same k)) (by kernel_rfl))))
def t4 (sf_ref15_Same : ((Option N1) × ((Option N1) × (Unit))) → Option ((Bool) × (Unit))) (f5 : T5) : T4 := fun x0 x1 => 
  (f5 x0 x1 (0 : Int))
theorem e4 (sf_ref15_Same : ((Option N1) × ((Option N1) × (Unit))) → Option ((Bool) × (Unit))) (k : Nat) : u4 sf_ref15_Same k = t4 sf_ref15_Same (l5 sf_ref15_Same k k) := by kernel_rfl
theorem g4 (sf_ref15_Same : ((Option N1) × ((Option N1) × (Unit))) → Option ((Bool) × (Unit))) (k : Nat) : l4 sf_ref15_Same k = u4 sf_ref15_Same k := funext fun _ => funext fun _ => cut_u _ _ _
theorem d4 (sf_ref15_Same : ((Option N1) × ((Option N1) × (Unit))) → Option ((Bool) × (Unit))) {x5 y5 : T5} (h5 : x5 = y5) : t4 sf_ref15_Same x5 = t4 sf_ref15_Same y5 := by subst h5; rfl
def p4 (sf_ref15_Same : ((Option N1) × ((Option N1) × (Unit))) → Option ((Bool) × (Unit))) (k : Nat) : T4 := t4 sf_ref15_Same (p5 sf_ref15_Same k k)
theorem o4 (sf_ref15_Same : ((Option N1) × ((Option N1) × (Unit))) → Option ((Bool) × (Unit))) (k : Nat) : l4 sf_ref15_Same k = p4 sf_ref15_Same k := (Eq.trans (b := u4 sf_ref15_Same k) (g4 sf_ref15_Same k) (Eq.trans (b := t4 sf_ref15_Same (l5 sf_ref15_Same k k)) (e4 sf_ref15_Same k) (Eq.trans (b := t4 sf_ref15_Same (p5 sf_ref15_Same k k)) (d4 sf_ref15_Same (o5 sf_ref15_Same k k)) (by kernel_rfl))))
def t3 (sf_ref15_Same : ((Option N1) × ((Option N1) × (Unit))) → Option ((Bool) × (Unit))) (f4 : T4) : T3 := fun x0 x1 x61 => 
  (iteB x61 (some (false, ())) (f4 x0 x1))
theorem e3 (sf_ref15_Same : ((Option N1) × ((Option N1) × (Unit))) → Option ((Bool) × (Unit))) (k : Nat) : u3 sf_ref15_Same k = t3 sf_ref15_Same (l4 sf_ref15_Same k) := by kernel_rfl
theorem g3 (sf_ref15_Same : ((Option N1) × ((Option N1) × (Unit))) → Option ((Bool) × (Unit))) (k : Nat) : l3 sf_ref15_Same k = u3 sf_ref15_Same k := funext fun _ => funext fun _ => funext fun _ => cut_u _ _ _
theorem d3 (sf_ref15_Same : ((Option N1) × ((Option N1) × (Unit))) → Option ((Bool) × (Unit))) {x4 y4 : T4} (h4 : x4 = y4) : t3 sf_ref15_Same x4 = t3 sf_ref15_Same y4 := by subst h4; rfl
def p3 (sf_ref15_Same : ((Option N1) × ((Option N1) × (Unit))) → Option ((Bool) × (Unit))) (k : Nat) : T3 := t3 sf_ref15_Same (p4 sf_ref15_Same k)
theorem o3 (sf_ref15_Same : ((Option N1) × ((Option N1) × (Unit))) → Option ((Bool) × (Unit))) (k : Nat) : l3 sf_ref15_Same k = p3 sf_ref15_Same k := (Eq.trans (b := u3 sf_ref15_Same k) (g3 sf_ref15_Same k) (Eq.trans (b := t3 sf_ref15_Same (l4 sf_ref15_Same k)) (e3 sf_ref15_Same k) (Eq.trans (b := t3 sf_ref15_Same (p4 sf_ref15_Same k)) (d3 sf_ref15_Same (o4 sf_ref15_Same k)) (by kernel_rfl))))
def t2 (sf_ref15_Same : ((Option N1) × ((Option N1) × (Unit))) → Option ((Bool) × (Unit))) (f3 : T3) : T2 := fun x0 x1 => 
  (bindR x0 fun z1 => (bindR x1 fun z2 => (iteB (!decide ((out1 z1).1 = (out1 z2).1)) (f3 x0 x1 true) (bindR x0 fun z3 => (bindR x1 fun z4 => (iteB (!decide ((out1 z3).2.1 = (out1 z4).2.1)) (f3 x0 x1 true) (bindR x0 fun z5 => (bindR x1 fun z6 => (iteB (!(decide ((out1 z5).2.2.1 = (out1 z6).2.2.1))) (f3 x0 x1 true) (bindR x0 fun z7 => (bindR x1 fun z8 => (f3 x0 x1 (!decide (((List.length (out1 z7).2.2.2.1 : Nat) : Int) = ((List.length (out1 z8).2.2.2.1 : Nat) : Int)))))))))))))))
theorem e2 (sf_ref15_Same : ((Option N1) × ((Option N1) × (Unit))) → Option ((Bool) × (Unit))) (k : Nat) : u2 sf_ref15_Same k = t2 sf_ref15_Same (l3 sf_ref15_Same k) := by kernel_rfl
theorem g2 (sf_ref15_Same : ((Option N1) × ((Option N1) × (Unit))) → Option ((Bool) × (Unit))) (k : Nat) : l2 sf_ref15_Same k = u2 sf_ref15_Same k := funext fun _ => funext fun _ => cut_u _ _ _
theorem d2 (sf_ref15_Same : ((Option N1) × ((Option N1) × (Unit))) → Option ((Bool) × (Unit))) {x3 y3 : T3} (h3 : x3 = y3) : t2 sf_ref15_Same x3 = t2 sf_ref15_Same y3 := by subst h3; rfl
def p2 (sf_ref15_Same : ((Option N1) × ((Option N1) × (Unit))) → Option ((Bool) × (Unit))) (k : Nat) : T2 := t2 sf_ref15_Same (p3 sf_ref15_Same k)
theorem o2 (sf_ref15_Same : ((Option N1) × ((Option N1) × (Unit))) → Option ((Bool) × (Unit))) (k : Nat) : l2 sf_ref15_Same k = p2 sf_ref15_Same k := (Eq.trans (b := u2 sf_ref15_Same k) (g2 sf_ref15_Same k) (Eq.trans (b := t2 sf_ref15_Same (l3 sf_ref15_Same k)) (e2 sf_ref15_Same k) (Eq.trans (b := t2 sf_ref15_Same (p3 sf_ref15_Same k)) (d2 sf_ref15_Same (o3 sf_ref15_Same k)) (by kernel_rfl))))
def t1 (sf_ref15_Same : ((Option N1) × ((Option N1) × (Unit))) → Option ((Bool) × (Unit))) (f2 : T2) : T1 := fun x0 x1 x11 => 
  (iteB x11 (iteB (Option.isNone x0) (some ((Option.isNone x1), ())) (some (false, ()))) (f2 x0 x1))
theorem e1 (sf_ref15_Same : ((Option N1) × ((Option N1) × (Unit))) → Option ((Bool) × (Unit))) (k : Nat) : u1 sf_ref15_Same k = t1 sf_ref15_Same (l2 sf_ref15_Same k) := by kernel_rfl
theorem g1 (sf_ref15_Same : ((Option N1) × ((Option N1) × (Unit))) → Option ((Bool) × (Unit))) (k : Nat) : l1 sf_ref15_Same k = u1 sf_ref15_Same k := funext fun _ => funext fun _ => funext fun _ => cut_u _ _ _
theorem d1 (sf_ref15_Same : ((Option N1) × ((Option N1) × (Unit))) → Option ((Bool) × (Unit))) {x2 y2 : T2} (h2 : x2 = y2) : t1 sf_ref15_Same x2 = t1 sf_ref15_Same y2 := by subst h2; rfl
def p1 (sf_ref15_Same : ((Option N1) × ((Option N1) × (Unit))) → Option ((Bool) × (Unit))) (k : Nat) : T1 := t1 sf_ref15_Same (p2 sf_ref15_Same k)
theorem o1 (sf_ref15_Same : ((Option N1) × ((Option N1) × (Unit))) → Option ((Bool) × (Unit))) (k : Nat) : l1 sf_ref15_Same k = p1 sf_ref15_Same k := (Eq.trans (b := u1 sf_ref15_Same k) (g1 sf_ref15_Same k) (Eq.trans (b := t1 sf_ref15_Same (l2 sf_ref15_Same k)) (e1 sf_ref15_Same k) (Eq.trans (b := t1 sf_ref15_Same (p2 sf_ref15_Same k)) (d1 sf_ref15_Same (o2 sf_ref15_Same k)) (by kernel_rfl))))
def t0 (sf_ref15_Same : ((Option N1) × ((Option N1) × (Unit))) → Option ((Bool) × (Unit))) (f1 : T1) : T0 := fun x0 x1 => 
  (iteB (Option.isNone x0) (f1 x0 x1 true) (f1 x0 x1 (Option.isNone x1)))
theorem e0 (sf_ref15_Same : ((Option N1) × ((Option N1) × (Unit))) → Option ((Bool) × (Unit))) (k : Nat) : u0 sf_ref15_Same k = t0 sf_ref15_Same (l1 sf_ref15_Same k) := by kernel_rfl
theorem d0 (sf_ref15_Same : ((Option N1) × ((Option N1) × (Unit))) → Option ((Bool) × (Unit))) {x1 y1 : T1} (h1 : x1 = y1) : t0 sf_ref15_Same x1 = t0 sf_ref15_Same y1 := by subst h1; rfl
def p0 (sf_ref15_Same : ((Option N1) × ((Option N1) × (Unit))) → Option ((Bool) × (Unit))) (k : Nat) : T0 := t0 sf_ref15_Same (p1 sf_ref15_Same k)
theorem o0 (sf_ref15_Same : ((Option N1) × ((Option N1) × (Unit))) → Option ((Bool) × (Unit))) (k : Nat) : u0 sf_ref15_Same k = p0 sf_ref15_Same k := (Eq.trans (b := t0 sf_ref15_Same (l1 sf_ref15_Same k)) (e0 sf_ref15_Same k) (Eq.trans (b := t0 sf_ref15_Same (p1 sf_ref15_Same k)) (d0 sf_ref15_Same (o1 sf_ref15_Same k)) (by kernel_rfl)))
end ref15_Same
def r_ref15_Same : Nat → ((Option N1) × ((Option N1) × (Unit))) → Option ((Bool) × (Unit))
  | 0, _ => none
  | n + 1, a => ref15_Same.p0 (r_ref15_Same n) (fuel) a.1 a.2.1
theorem okr_ref15_Same : ∀ n, FnOk Try.prog (Fr_ref15_Same (r_ref15_Same n)) 17
  | 0 => fn_none (fun _ => rfl)
  | n + 1 => fn_of (F := Fr_ref15_Same (r_ref15_Same (n + 1))) (hn := ref15_Same.h) (E := ref15_Same.E (r_ref15_Same n)) cxOk (tysT _ _) (fs_cons (okr_ref15_Same n) fs_nil) follows Try.func17 (by kernel_rfl) (fun a r h => ⟨fuel, Eq.trans (c := some r) (congrFun (congrFun (ref15_Same.o0 (r_ref15_Same n) (fuel)) a.1) a.2.1) h⟩)
def s_ref15_Same (a : (Option N1) × ((Option N1) × (Unit))) : Option ((Bool) × (Unit)) := r_ref15_Same (fuel) a
def F_ref15_Same : FSpec cx.toNm := Fr_ref15_Same s_ref15_Same
theorem ok_ref15_Same : FnOk Try.prog F_ref15_Same 17 := fun w Z own vs a r h1 h2 h3 h4 => (okr_ref15_Same (fuel)) w Z own vs a r h1 h2 h3 h4
def Fr_law15_count (f : ((Option N1) × ((Int) × (Unit))) → Option ((Int) × (Unit))) : FSpec cx.toNm := { ps := [.val (.ptr 1), .val (.int .i64)], nres := 1, rt := (.int .i64), rm := .ro, f := f }
namespace law15_count
def E (sf_law15_count : ((Option N1) × ((Int) × (Unit))) → Option ((Int) × (Unit))) : Env cx := { tys := tys, fs := fsOf [(32, (Fr_law15_count sf_law15_count))] }
abbrev R := Option ((Int) × (Unit))
abbrev C := Exit → ST cx → R
noncomputable def b : Code := bodyC Try.f32
def h : Hint := { vs := [0, 1, 4, 5], nil := [], cuts := [(3, ([0, 1, 13], []), ([0, 1], [])), (4, ([0, 1], []), ([0, 1], [])), (5, ([0, 1, 5], []), ([1], [])), (7, ([0, 1, 5], []), ([0, 1, 5], [])), (8, ([1], []), ([1], [])), (1000000, ([0, 1, 5, 25], []), ([0, 1, 5], []))], ret := ([4], []), ords := [] }
def K0 (sf_law15_count : ((Option N1) × ((Int) × (Unit))) → Option ((Int) × (Unit))) : C := fin (S := cx) (E sf_law15_count) Try.f32.results.toList (.int .i64) .ro [] []
def c0 : Code := subC b [1]
def K1 (sf_law15_count : ((Option N1) × ((Int) × (Unit))) → Option ((Int) × (Unit))) (k : Nat) : C := outD h c0 (K0 sf_law15_count)
def c1 : Code := subC b [1, 1]
def K3 (sf_law15_count : ((Option N1) × ((Int) × (Unit))) → Option ((Int) × (Unit))) (k : Nat) : C := outD h c1 (K1 sf_law15_count k)
def c2 : Code := subC b [1, 1, 1]
def K5 (sf_law15_count : ((Option N1) × ((Int) × (Unit))) → Option ((Int) × (Unit))) (k : Nat) : C := outD h c2 (K3 sf_law15_count k)
def K6 (sf_law15_count : ((Option N1) × ((Int) × (Unit))) → Option ((Int) × (Unit))) (k : Nat) : C := seqC (E sf_law15_count) h k c2 (K3 sf_law15_count k)
def c3 : Code := subC b [1, 1, 0, 1]
def K7 (sf_law15_count : ((Option N1) × ((Int) × (Unit))) → Option ((Int) × (Unit))) (k : Nat) : C := outD h c3 (K6 sf_law15_count k)
def c5 : Code := subC b [1, 1, 1, 1]
def K11 (sf_law15_count : ((Option N1) × ((Int) × (Unit))) → Option ((Int) × (Unit))) (k : Nat) : C := outD h c5 (K5 sf_law15_count k)
def K12 (sf_law15_count : ((Option N1) × ((Int) × (Unit))) → Option ((Int) × (Unit))) (k : Nat) : C := seqC (E sf_law15_count) h k c5 (K5 sf_law15_count k)
def c6 : Code := subC b [1, 1, 1, 0, 1]
def K13 (sf_law15_count : ((Option N1) × ((Int) × (Unit))) → Option ((Int) × (Unit))) (k : Nat) : C := outD h c6 (K12 sf_law15_count k)
def K15 (sf_law15_count : ((Option N1) × ((Int) × (Unit))) → Option ((Int) × (Unit))) (k : Nat) : C := blockK 0 (K13 sf_law15_count k)
def c7 : Code := subC b [1, 1, 1, 0, 1, 0, 0]
def K16 (sf_law15_count : ((Option N1) × ((Int) × (Unit))) → Option ((Int) × (Unit))) (k n3 : Nat) : C := loopD (E sf_law15_count) h k c7 (K15 sf_law15_count k) n3
def c8 : Code := subC b [1, 1, 1, 0, 1, 0, 0, 1]
def K17 (sf_law15_count : ((Option N1) × ((Int) × (Unit))) → Option ((Int) × (Unit))) (k n3 : Nat) : C := outD h c8 (K16 sf_law15_count k n3)
def K18 (sf_law15_count : ((Option N1) × ((Int) × (Unit))) → Option ((Int) × (Unit))) (k n3 : Nat) : C := seqC (E sf_law15_count) h k c8 (K16 sf_law15_count k n3)
def c9 : Code := subC b [1, 1, 1, 0, 1, 0, 0, 0, 1]
def K19 (sf_law15_count : ((Option N1) × ((Int) × (Unit))) → Option ((Int) × (Unit))) (k n3 : Nat) : C := outD h c9 (K18 sf_law15_count k n3)
abbrev T5 := (Option N1) → Int → Int → R
abbrev T6 := Int → R
abbrev T4 := (Option N1) → Int → Int → Bool → R
abbrev T3 := (Option N1) → Int → Int → R
abbrev T2 := (Option N1) → Int → R
abbrev T1 := (Option N1) → Int → Bool → R
abbrev T0 := (Option N1) → Int → R
abbrev s5 := fun x0 x1 x5 => ({ vars := [(0, .v (.ptr 1) .ro x0), (1, .v (.int .i64) .ro x1), (5, .v (.int .i64) .ro x5)], scr := [], mems := [] } : ST cx)
def u5 (sf_law15_count : ((Option N1) × ((Int) × (Unit))) → Option ((Int) × (Unit))) (k n3 : Nat) : T5 := fun x0 x1 x5 => uK (run (E sf_law15_count) h k c8) (s5 x0 x1 x5) (K17 sf_law15_count k n3)
abbrev l5 (sf_law15_count : ((Option N1) × ((Int) × (Unit))) → Option ((Int) × (Unit))) (k n3 : Nat) : T5 := fun x0 x1 x5 => cutK (run (E sf_law15_count) h k c8) (s5 x0 x1 x5) (K17 sf_law15_count k n3)
abbrev s6 := fun x1 => ({ vars := [(1, .v (.int .i64) .ro x1)], scr := [], mems := [] } : ST cx)
def u6 (sf_law15_count : ((Option N1) × ((Int) × (Unit))) → Option ((Int) × (Unit))) (k : Nat) : T6 := fun x1 => uK (run (E sf_law15_count) h k c5) (s6 x1) (K11 sf_law15_count k)
abbrev l6 (sf_law15_count : ((Option N1) × ((Int) × (Unit))) → Option ((Int) × (Unit))) (k : Nat) : T6 := fun x1 => cutK (run (E sf_law15_count) h k c5) (s6 x1) (K11 sf_law15_count k)
abbrev s4 := fun x0 x1 x5 x25 => ({ vars := [(0, .v (.ptr 1) .ro x0), (1, .v (.int .i64) .ro x1), (5, .v (.int .i64) .ro x5), (25, .v .bool .ro x25)], scr := [], mems := [] } : ST cx)
def u4 (sf_law15_count : ((Option N1) × ((Int) × (Unit))) → Option ((Int) × (Unit))) (k n3 : Nat) : T4 := fun x0 x1 x5 x25 => uK (run (E sf_law15_count) h k c9) (s4 x0 x1 x5 x25) (K19 sf_law15_count k n3)
abbrev l4 (sf_law15_count : ((Option N1) × ((Int) × (Unit))) → Option ((Int) × (Unit))) (k n3 : Nat) : T4 := fun x0 x1 x5 x25 => cutK (run (E sf_law15_count) h k c9) (s4 x0 x1 x5 x25) (K19 sf_law15_count k n3)
abbrev s3 := fun x0 x1 x5 => ({ vars := [(0, .v (.ptr 1) .ro x0), (1, .v (.int .i64) .ro x1), (5, .v (.int .i64) .ro x5)], scr := [], mems := [] } : ST cx)
def u3 (sf_law15_count : ((Option N1) × ((Int) × (Unit))) → Option ((Int) × (Unit))) (k n3 : Nat) : T3 := fun x0 x1 x5 => uK (loopL (E sf_law15_count) h k c7 (K15 sf_law15_count k) n3) (s3 x0 x1 x5) ()
abbrev l3 (sf_law15_count : ((Option N1) × ((Int) × (Unit))) → Option ((Int) × (Unit))) (k n3 : Nat) : T3 := fun x0 x1 x5 => cutK (loopL (E sf_law15_count) h k c7 (K15 sf_law15_count k) n3) (s3 x0 x1 x5) ()
abbrev s2 := fun x0 x1 => ({ vars := [(0, .v (.ptr 1) .ro x0), (1, .v (.int .i64) .ro x1)], scr := [], mems := [] } : ST cx)
def u2 (sf_law15_count : ((Option N1) × ((Int) × (Unit))) → Option ((Int) × (Unit))) (k : Nat) : T2 := fun x0 x1 => uK (run (E sf_law15_count) h k c2) (s2 x0 x1) (K5 sf_law15_count k)
abbrev l2 (sf_law15_count : ((Option N1) × ((Int) × (Unit))) → Option ((Int) × (Unit))) (k : Nat) : T2 := fun x0 x1 => cutK (run (E sf_law15_count) h k c2) (s2 x0 x1) (K5 sf_law15_count k)
abbrev s1 := fun x0 x1 x13 => ({ vars := [(0, .v (.ptr 1) .ro x0), (1, .v (.int .i64) .ro x1), (13, .v .bool .ro x13)], scr := [], mems := [] } : ST cx)
def u1 (sf_law15_count : ((Option N1) × ((Int) × (Unit))) → Option ((Int) × (Unit))) (k : Nat) : T1 := fun x0 x1 x13 => uK (run (E sf_law15_count) h k c3) (s1 x0 x1 x13) (K7 sf_law15_count k)
abbrev l1 (sf_law15_count : ((Option N1) × ((Int) × (Unit))) → Option ((Int) × (Unit))) (k : Nat) : T1 := fun x0 x1 x13 => cutK (run (E sf_law15_count) h k c3) (s1 x0 x1 x13) (K7 sf_law15_count k)
def u0 (sf_law15_count : ((Option N1) × ((Int) × (Unit))) → Option ((Int) × (Unit))) (k : Nat) : T0 := fun x0 x1 => runOf (S := cx) (E sf_law15_count) h k Try.f32 [.val (.ptr 1), .val (.int .i64)] (.int .i64) .ro (x0, x1, ())
def t5 (sf_law15_count : ((Option N1) × ((Int) × (Unit))) → Option ((Int) × (Unit))) (f3 : T3) : T5 := fun x0 x1 x5 => 
  (bindR x0 fun z2 => (withinR x5 (List.length (out1 z2).2.2.2.1) fun q3 => (bindR (sf_law15_count ((List.getD (out1 z2).2.2.2.1 q3 none), (x1, ()))) fun r4 => (f3 x0 r4.1 (w64 (x5 + (1 : Int)))))))
theorem e5 (sf_law15_count : ((Option N1) × ((Int) × (Unit))) → Option ((Int) × (Unit))) (k n3 : Nat) : u5 sf_law15_count k n3 = t5 sf_law15_count (l3 sf_law15_count k n3) := by kernel_rfl
theorem g5 (sf_law15_count : ((Option N1) × ((Int) × (Unit))) → Option ((Int) × (Unit))) (k n3 : Nat) : l5 sf_law15_count k n3 = u5 sf_law15_count k n3 := funext fun _ => funext fun _ => funext fun _ => cut_u _ _ _
theorem d5 (sf_law15_count : ((Option N1) × ((Int) × (Unit))) → Option ((Int) × (Unit))) {x3 y3 : T3} (h3 : x3 = y3) : t5 sf_law15_count x3 = t5 sf_law15_count y3 := by subst h3; rfl
def p5 (sf_law15_count : ((Option N1) × ((Int) × (Unit))) → Option ((Int) × (Unit))) (k : Nat) (a3 : T3) : T5 := t5 sf_law15_count a3
theorem o5 (sf_law15_count : ((Option N1) × ((Int) × (Unit))) → Option ((Int) × (Unit))) (k n3 : Nat) (a3 : T3) (h3 : l3 sf_law15_count k n3 = a3) : l5 sf_law15_count k n3 = p5 sf_law15_count k a3 := (Eq.trans (b := u5 sf_law15_count k n3) (g5 sf_law15_count k n3) (Eq.trans (b := t5 sf_law15_count (l3 sf_law15_count k n3)) (e5 sf_law15_count k n3) (Eq.trans (b := t5 sf_law15_count a3) (d5 sf_law15_count h3) (by kernel_rfl))))
def t6 (sf_law15_count : ((Option N1) × ((Int) × (Unit))) → Option ((Int) × (Unit))) : T6 := fun x1 => 
  (some (x1, ()))
theorem e6 (sf_law15_count : ((Option N1) × ((Int) × (Unit))) → Option ((Int) × (Unit))) (k : Nat) : u6 sf_law15_count k = t6 sf_law15_count := by kernel_rfl
theorem g6 (sf_law15_count : ((Option N1) × ((Int) × (Unit))) → Option ((Int) × (Unit))) (k : Nat) : l6 sf_law15_count k = u6 sf_law15_count k := funext fun _ => cut_u _ _ _
def p6 (sf_law15_count : ((Option N1) × ((Int) × (Unit))) → Option ((Int) × (Unit))) (k : Nat) : T6 := t6 sf_law15_count
theorem o6 (sf_law15_count : ((Option N1) × ((Int) × (Unit))) → Option ((Int) × (Unit))) (k : Nat) : l6 sf_law15_count k = p6 sf_law15_count k := (Eq.trans (b := u6 sf_law15_count k) (g6 sf_law15_count k) (Eq.trans (b := t6 sf_law15_count) (e6 sf_law15_count k) (by kernel_rfl)))
def t4 (sf_law15_count : ((Option N1) × ((Int) × (Unit))) → Option ((Int) × (Unit))) (f5 : T5) (f6 : T6) : T4 := fun x0 x1 x5 x25 => 
  (iteB x25 (f5 x0 x1 x5) (f6 x1))
theorem e4 (sf_law15_count : ((Option N1) × ((Int) × (Unit))) → Option ((Int) × (Unit))) (k n3 : Nat) : u4 sf_law15_count k n3 = t4 sf_law15_count (l5 sf_law15_count k n3) (l6 sf_law15_count k) := by kernel_rfl
theorem g4 (sf_law15_count : ((Option N1) × ((Int) × (Unit))) → Option ((Int) × (Unit))) (k n3 : Nat) : l4 sf_law15_count k n3 = u4 sf_law15_count k n3 := funext fun _ => funext fun _ => funext fun _ => funext fun _ => cut_u _ _ _
theorem d4 (sf_law15_count : ((Option N1) × ((Int) × (Unit))) → Option ((Int) × (Unit))) {x5 y5 : T5} {x6 y6 : T6} (h5 : x5 = y5) (h6 : x6 = y6) : t4 sf_law15_count x5 x6 = t4 sf_law15_count y5 y6 := by subst h5; subst h6; rfl
def p4 (sf_law15_count : ((Option N1) × ((Int) × (Unit))) → Option ((Int) × (Unit))) (k : Nat) (a3 : T3) : T4 := t4 sf_law15_count (p5 sf_law15_count k a3) (p6 sf_law15_count k)
theorem o4 (sf_law15_count : ((Option N1) × ((Int) × (Unit))) → Option ((Int) × (Unit))) (k n3 : Nat) (a3 : T3) (h3 : l3 sf_law15_count k n3 = a3) : l4 sf_law15_count k n3 = p4 sf_law15_count k a3 := (Eq.trans (b := u4 sf_law15_count k n3) (g4 sf_law15_count k n3) (Eq.trans (b := t4 sf_law15_count (l5 sf_law15_count k n3) (l6 sf_law15_count k)) (e4 sf_law15_count k n3) (Eq.trans (b := t4 sf_law15_count (p5 sf_law15_count k a3) (p6 sf_law15_count k)) (d4 sf_law15_count (o5 sf_law15_count k n3 a3 h3) (o6 sf_law15_count k)) (by kernel_rfl))))
def t3 (sf_law15_count : ((Option N1) × ((Int) × (Unit))) → Option ((Int) × (Unit))) (f4 : T4) : T3 := fun x0 x1 x5 => 
  (bindR x0 fun z1 => (iteB (decide (x5 < ((List.length (out1 z1).2.2.2.1 : Nat) : Int))) (f4 x0 x1 x5 (decide (x1 ≤ (3000 : Int)))) (f4 x0 x1 x5 false)))
theorem e3 (sf_law15_count : ((Option N1) × ((Int) × (Unit))) → Option ((Int) × (Unit))) (k n3 : Nat) : u3 sf_law15_count k (n3 + 1) = t3 sf_law15_count (l4 sf_law15_count k n3) := by kernel_rfl
theorem g3 (sf_law15_count : ((Option N1) × ((Int) × (Unit))) → Option ((Int) × (Unit))) (k n3 : Nat) : l3 sf_law15_count k (n3 + 1) = u3 sf_law15_count k (n3 + 1) := funext fun _ => funext fun _ => funext fun _ => cut_u _ _ _
theorem d3 (sf_law15_count : ((Option N1) × ((Int) × (Unit))) → Option ((Int) × (Unit))) {x4 y4 : T4} (h4 : x4 = y4) : t3 sf_law15_count x4 = t3 sf_law15_count y4 := by subst h4; rfl
def p3 (sf_law15_count : ((Option N1) × ((Int) × (Unit))) → Option ((Int) × (Unit))) (k : Nat) : Nat → T3
  | 0 => fun _ _ _ => none
  | n3 + 1 => t3 sf_law15_count (p4 sf_law15_count k (p3 sf_law15_count k n3))
theorem o3 (sf_law15_count : ((Option N1) × ((Int) × (Unit))) → Option ((Int) × (Unit))) (k : Nat) : ∀ n3, l3 sf_law15_count k n3 = p3 sf_law15_count k n3 := by
  intro n3
  induction n3 with
  | zero => kernel_rfl
  | succ n3 ih => exact (Eq.trans (b := u3 sf_law15_count k (n3 + 1)) (g3 sf_law15_count k n3) (Eq.trans (b := t3 sf_law15_count (l4 sf_law15_count k n3)) (e3 sf_law15_count k n3) (Eq.trans (b := t3 sf_law15_count (p4 sf_law15_count k (p3 sf_law15_count k n3))) (d3 sf_law15_count (o4 sf_law15_count k n3 (p3 sf_law15_count k n3) ih)) (by kernel_rfl))))
def t2 (sf_law15_count : ((Option N1) × ((Int) × (Unit))) → Option ((Int) × (Unit))) (f3 : T3) : T2 := fun x0 x1 => 
  (f3 x0 x1 (0 : Int))
theorem e2 (sf_law15_count : ((Option N1) × ((Int) × (Unit))) → Option ((Int) × (Unit))) (k : Nat) : u2 sf_law15_count k = t2 sf_law15_count (l3 sf_law15_count k k) := by kernel_rfl
theorem g2 (sf_law15_count : ((Option N1) × ((Int) × (Unit))) → Option ((Int) × (Unit))) (k : Nat) : l2 sf_law15_count k = u2 sf_law15_count k := funext fun _ => funext fun _ => cut_u _ _ _
theorem d2 (sf_law15_count : ((Option N1) × ((Int) × (Unit))) → Option ((Int) × (Unit))) {x3 y3 : T3} (h3 : x3 = y3) : t2 sf_law15_count x3 = t2 sf_law15_count y3 := by subst h3; rfl
def p2 (sf_law15_count : ((Option N1) × ((Int) × (Unit))) → Option ((Int) × (Unit))) (k : Nat) : T2 := t2 sf_law15_count (p3 sf_law15_count k k)
theorem o2 (sf_law15_count : ((Option N1) × ((Int) × (Unit))) → Option ((Int) × (Unit))) (k : Nat) : l2 sf_law15_count k = p2 sf_law15_count k := (Eq.trans (b := u2 sf_law15_count k) (g2 sf_law15_count k) (Eq.trans (b := t2 sf_law15_count (l3 sf_law15_count k k)) (e2 sf_law15_count k) (Eq.trans (b := t2 sf_law15_count (p3 sf_law15_count k k)) (d2 sf_law15_count (o3 sf_law15_count k k)) (by kernel_rfl))))
def t1 (sf_law15_count : ((Option N1) × ((Int) × (Unit))) → Option ((Int) × (Unit))) (f2 : T2) : T1 := fun x0 x1 x13 => 
  (iteB x13 (some (x1, ())) (f2 x0 x1))
theorem e1 (sf_law15_count : ((Option N1) × ((Int) × (Unit))) → Option ((Int) × (Unit))) (k : Nat) : u1 sf_law15_count k = t1 sf_law15_count (l2 sf_law15_count k) := by kernel_rfl
theorem g1 (sf_law15_count : ((Option N1) × ((Int) × (Unit))) → Option ((Int) × (Unit))) (k : Nat) : l1 sf_law15_count k = u1 sf_law15_count k := funext fun _ => funext fun _ => funext fun _ => cut_u _ _ _
theorem d1 (sf_law15_count : ((Option N1) × ((Int) × (Unit))) → Option ((Int) × (Unit))) {x2 y2 : T2} (h2 : x2 = y2) : t1 sf_law15_count x2 = t1 sf_law15_count y2 := by subst h2; rfl
def p1 (sf_law15_count : ((Option N1) × ((Int) × (Unit))) → Option ((Int) × (Unit))) (k : Nat) : T1 := t1 sf_law15_count (p2 sf_law15_count k)
theorem o1 (sf_law15_count : ((Option N1) × ((Int) × (Unit))) → Option ((Int) × (Unit))) (k : Nat) : l1 sf_law15_count k = p1 sf_law15_count k := (Eq.trans (b := u1 sf_law15_count k) (g1 sf_law15_count k) (Eq.trans (b := t1 sf_law15_count (l2 sf_law15_count k)) (e1 sf_law15_count k) (Eq.trans (b := t1 sf_law15_count (p2 sf_law15_count k)) (d1 sf_law15_count (o2 sf_law15_count k)) (by kernel_rfl))))
def t0 (sf_law15_count : ((Option N1) × ((Int) × (Unit))) → Option ((Int) × (Unit))) (f1 : T1) : T0 := fun x0 x1 => 
  (iteB (Option.isNone x0) (f1 x0 (w64 (x1 + (1 : Int))) true) (f1 x0 (w64 (x1 + (1 : Int))) (decide ((3000 : Int) < (w64 (x1 + (1 : Int)))))))
theorem e0 (sf_law15_count : ((Option N1) × ((Int) × (Unit))) → Option ((Int) × (Unit))) (k : Nat) : u0 sf_law15_count k = t0 sf_law15_count (l1 sf_law15_count k) := by kernel_rfl
theorem d0 (sf_law15_count : ((Option N1) × ((Int) × (Unit))) → Option ((Int) × (Unit))) {x1 y1 : T1} (h1 : x1 = y1) : t0 sf_law15_count x1 = t0 sf_law15_count y1 := by subst h1; rfl
def p0 (sf_law15_count : ((Option N1) × ((Int) × (Unit))) → Option ((Int) × (Unit))) (k : Nat) : T0 := t0 sf_law15_count (p1 sf_law15_count k)
theorem o0 (sf_law15_count : ((Option N1) × ((Int) × (Unit))) → Option ((Int) × (Unit))) (k : Nat) : u0 sf_law15_count k = p0 sf_law15_count k := (Eq.trans (b := t0 sf_law15_count (l1 sf_law15_count k)) (e0 sf_law15_count k) (Eq.trans (b := t0 sf_law15_count (p1 sf_law15_count k)) (d0 sf_law15_count (o1 sf_law15_count k)) (by kernel_rfl)))
end law15_count
def r_law15_count : Nat → ((Option N1) × ((Int) × (Unit))) → Option ((Int) × (Unit))
  | 0, _ => none
  | n + 1, a => law15_count.p0 (r_law15_count n) (fuel) a.1 a.2.1
theorem okr_law15_count : ∀ n, FnOk Try.prog (Fr_law15_count (r_law15_count n)) 32
  | 0 => fn_none (fun _ => rfl)
  | n + 1 => fn_of (F := Fr_law15_count (r_law15_count (n + 1))) (hn := law15_count.h) (E := law15_count.E (r_law15_count n)) cxOk (tysT _ _) (fs_cons (okr_law15_count n) fs_nil) follows Try.func32 (by kernel_rfl) (fun a r h => ⟨fuel, Eq.trans (c := some r) (congrFun (congrFun (law15_count.o0 (r_law15_count n) (fuel)) a.1) a.2.1) h⟩)
def s_law15_count (a : (Option N1) × ((Int) × (Unit))) : Option ((Int) × (Unit)) := r_law15_count (fuel) a
def F_law15_count : FSpec cx.toNm := Fr_law15_count s_law15_count
theorem ok_law15_count : FnOk Try.prog F_law15_count 32 := fun w Z own vs a r h1 h2 h3 h4 => (okr_law15_count (fuel)) w Z own vs a r h1 h2 h3 h4
namespace law15_Great
def E : Env cx := { tys := tys, fs := fsOf [(32, F_law15_count)] }
abbrev R := Option ((Bool) × (Unit))
abbrev C := Exit → ST cx → R
noncomputable def b : Code := bodyC Try.f10
def h : Hint := { vs := [0, 2], nil := [], cuts := [], ret := ([2], []), ords := [] }
abbrev T0 := (Option N1) → R
def u0 (k : Nat) : T0 := fun x0 => runOf (S := cx) E h k Try.f10 [.val (.ptr 1)] .bool .ro (x0, ())
def t0 : T0 := fun x0 => 
  (bindR (s_law15_count (x0, ((0 : Int), ()))) fun r1 => (some ((decide ((3000 : Int) < r1.1)), ())))
theorem e0 (k : Nat) : u0 k = t0 := by kernel_rfl
def p0 (k : Nat) : T0 := t0
theorem o0 (k : Nat) : u0 k = p0 k := (Eq.trans (b := t0) (e0 k) (by kernel_rfl))
end law15_Great
def s_law15_Great (a : (Option N1) × (Unit)) : Option ((Bool) × (Unit)) := law15_Great.p0 (fuel) a.1
def F_law15_Great : FSpec cx.toNm := { ps := [.val (.ptr 1)], nres := 1, rt := .bool, rm := .ro, f := s_law15_Great }
theorem w_law15_Great (a : (Option N1) × (Unit)) : runOf (S := cx) law15_Great.E law15_Great.h (fuel) Try.f10 F_law15_Great.ps F_law15_Great.rt F_law15_Great.rm a = F_law15_Great.f a := Eq.trans (b := law15_Great.u0 (fuel) a.1) (by kernel_rfl) (Eq.trans (b := law15_Great.p0 (fuel) a.1) (congrFun (law15_Great.o0 (fuel)) a.1) (by kernel_rfl))
theorem ok_law15_Great : FnOk Try.prog F_law15_Great 10 := fn_of (hn := law15_Great.h) (E := law15_Great.E) cxOk (tysT _ _) (fs_cons ok_law15_count fs_nil) follows Try.func10 (by kernel_rfl) (fun a r h => ⟨fuel, Eq.trans (w_law15_Great a) h⟩)
def Fr_tree_Same (f : ((Option N1) × ((Option N1) × (Unit))) → Option ((Bool) × (Unit))) : FSpec cx.toNm := { ps := [.val (.ptr 1), .val (.ptr 1)], nres := 1, rt := .bool, rm := .ro, f := f }
def Fr_slices_EqualFunc (f : ((List (Option N1)) × ((List (Option N1)) × ((Unit) × (Unit)))) → Option ((Bool) × (Unit))) : FSpec cx.toNm := { ps := [.val (.slice 35 (.ptr 1)), .val (.slice 35 (.ptr 1)), .val (.clo 21 .unit)], nres := 1, rt := .bool, rm := .ro, f := f }
namespace tree_Same
def E (sf_tree_Same : ((Option N1) × ((Option N1) × (Unit))) → Option ((Bool) × (Unit))) (sf_slices_EqualFunc : ((List (Option N1)) × ((List (Option N1)) × ((Unit) × (Unit)))) → Option ((Bool) × (Unit))) : Env cx := { tys := tys, fs := fsOf [(44, (Fr_slices_EqualFunc sf_slices_EqualFunc))] }
abbrev R := Option ((Bool) × (Unit))
abbrev C := Exit → ST cx → R
noncomputable def b : Code := bodyC Try.f21
def h : Hint := { vs := [0, 1, 4], nil := [], cuts := [(2, ([0, 1, 10], []), ([0, 1], [])), (3, ([0, 1], []), ([0, 1], []))], ret := ([4], []), ords := [] }
def K0 (sf_tree_Same : ((Option N1) × ((Option N1) × (Unit))) → Option ((Bool) × (Unit))) (sf_slices_EqualFunc : ((List (Option N1)) × ((List (Option N1)) × ((Unit) × (Unit)))) → Option ((Bool) × (Unit))) : C := fin (S := cx) (E sf_tree_Same sf_slices_EqualFunc) Try.f21.results.toList .bool .ro [] []
def c0 : Code := subC b [1]
def K1 (sf_tree_Same : ((Option N1) × ((Option N1) × (Unit))) → Option ((Bool) × (Unit))) (sf_slices_EqualFunc : ((List (Option N1)) × ((List (Option N1)) × ((Unit) × (Unit)))) → Option ((Bool) × (Unit))) (k : Nat) : C := outD h c0 (K0 sf_tree_Same sf_slices_EqualFunc)
def c1 : Code := subC b [1, 1]
def K3 (sf_tree_Same : ((Option N1) × ((Option N1) × (Unit))) → Option ((Bool) × (Unit))) (sf_slices_EqualFunc : ((List (Option N1)) × ((List (Option N1)) × ((Unit) × (Unit)))) → Option ((Bool) × (Unit))) (k : Nat) : C := outD h c1 (K1 sf_tree_Same sf_slices_EqualFunc k)
def K4 (sf_tree_Same : ((Option N1) × ((Option N1) × (Unit))) → Option ((Bool) × (Unit))) (sf_slices_EqualFunc : ((List (Option N1)) × ((List (Option N1)) × ((Unit) × (Unit)))) → Option ((Bool) × (Unit))) (k : Nat) : C := seqC (E sf_tree_Same sf_slices_EqualFunc) h k c1 (K1 sf_tree_Same sf_slices_EqualFunc k)
def c2 : Code := subC b [1, 0, 1]
def K5 (sf_tree_Same : ((Option N1) × ((Option N1) × (Unit))) → Option ((Bool) × (Unit))) (sf_slices_EqualFunc : ((List (Option N1)) × ((List (Option N1)) × ((Unit) × (Unit)))) → Option ((Bool) × (Unit))) (k : Nat) : C := outD h c2 (K4 sf_tree_Same sf_slices_EqualFunc k)
abbrev T2 := (Option N1) → (Option N1) → R
abbrev T1 := (Option N1) → (Option N1) → Bool → R
abbrev T0 := (Option N1) → (Option N1) → R
abbrev s2 := fun x0 x1 => ({ vars := [(0, .v (.ptr 1) .ro x0), (1, .v (.ptr 1) .ro x1)], scr := [], mems := [] } : ST cx)
def u2 (sf_tree_Same : ((Option N1) × ((Option N1) × (Unit))) → Option ((Bool) × (Unit))) (sf_slices_EqualFunc : ((List (Option N1)) × ((List (Option N1)) × ((Unit) × (Unit)))) → Option ((Bool) × (Unit))) (k : Nat) : T2 := fun x0 x1 => uK (run (E sf_tree_Same sf_slices_EqualFunc) h k c1) (s2 x0 x1) (K3 sf_tree_Same sf_slices_EqualFunc k)
abbrev l2 (sf_tree_Same : ((Option N1) × ((Option N1) × (Unit))) → Option ((Bool) × (Unit))) (sf_slices_EqualFunc : ((List (Option N1)) × ((List (Option N1)) × ((Unit) × (Unit)))) → Option ((Bool) × (Unit))) (k : Nat) : T2 := fun x0 x1 => cutK (run (E sf_tree_Same sf_slices_EqualFunc) h k c1) (s2 x0 x1) (K3 sf_tree_Same sf_slices_EqualFunc k)
abbrev s1 := fun x0 x1 x10 => ({ vars := [(0, .v (.ptr 1) .ro x0), (1, .v (.ptr 1) .ro x1), (10, .v .bool .ro x10)], scr := [], mems := [] } : ST cx)
def u1 (sf_tree_Same : ((Option N1) × ((Option N1) × (Unit))) → Option ((Bool) × (Unit))) (sf_slices_EqualFunc : ((List (Option N1)) × ((List (Option N1)) × ((Unit) × (Unit)))) → Option ((Bool) × (Unit))) (k : Nat) : T1 := fun x0 x1 x10 => uK (run (E sf_tree_Same sf_slices_EqualFunc) h k c2) (s1 x0 x1 x10) (K5 sf_tree_Same sf_slices_EqualFunc k)
abbrev l1 (sf_tree_Same : ((Option N1) × ((Option N1) × (Unit))) → Option ((Bool) × (Unit))) (sf_slices_EqualFunc : ((List (Option N1)) × ((List (Option N1)) × ((Unit) × (Unit)))) → Option ((Bool) × (Unit))) (k : Nat) : T1 := fun x0 x1 x10 => cutK (run (E sf_tree_Same sf_slices_EqualFunc) h k c2) (s1 x0 x1 x10) (K5 sf_tree_Same sf_slices_EqualFunc k)
def u0 (sf_tree_Same : ((Option N1) × ((Option N1) × (Unit))) → Option ((Bool) × (Unit))) (sf_slices_EqualFunc : ((List (Option N1)) × ((List (Option N1)) × ((Unit) × (Unit)))) → Option ((Bool) × (Unit))) (k : Nat) : T0 := fun x0 x1 => runOf (S := cx) (E sf_tree_Same sf_slices_EqualFunc) h k Try.f21 [.val (.ptr 1), .val (.ptr 1)] .bool .ro (x0, x1, ())
def t2 (sf_tree_Same : ((Option N1) × ((Option N1) × (Unit))) → Option ((Bool) × (Unit))) (sf_slices_EqualFunc : ((List (Option N1)) × ((List (Option N1)) × ((Unit) × (Unit)))) → Option ((Bool) × (Unit))) : T2 := fun x0 x1 => 
  (ptrR x0 x1 (some (true, ())) (bindR x0 fun z1 => (bindR x1 fun z2 => (iteB (decide ((out1 z1).1 = (out1 z2).1)) (bindR x0 fun z3 => (bindR x1 fun z4 => (iteB (decide ((out1 z3).2.1 = (out1 z4).2.1)) (bindR x0 fun z5 => (bindR x1 fun z6 => (iteB (decide ((out1 z5).2.2.1 = (out1 z6).2.2.1)) (bindR x0 fun z7 => (bindR x1 fun z8 => (bindR (sf_slices_EqualFunc ((out1 z7).2.2.2.1, ((out1 z8).2.2.2.1, ((), ())))) fun r9 => (some (r9.1, ()))))) (some (false, ()))))) (some (false, ()))))) (some (false, ()))))))
theorem e2 (sf_tree_Same : ((Option N1) × ((Option N1) × (Unit))) → Option ((Bool) × (Unit))) (sf_slices_EqualFunc : ((List (Option N1)) × ((List (Option N1)) × ((Unit) × (Unit)))) → Option ((Bool) × (Unit))) (k : Nat) : u2 sf_tree_Same sf_slices_EqualFunc k = t2 sf_tree_Same sf_slices_EqualFunc := by kernel_rfl
theorem g2 (sf_tree_Same : ((Option N1) × ((Option N1) × (Unit))) → Option ((Bool) × (Unit))) (sf_slices_EqualFunc : ((List (Option N1)) × ((List (Option N1)) × ((Unit) × (Unit)))) → Option ((Bool) × (Unit))) (k : Nat) : l2 sf_tree_Same sf_slices_EqualFunc k = u2 sf_tree_Same sf_slices_EqualFunc k := funext fun _ => funext fun _ => cut_u _ _ _
def p2 (sf_tree_Same : ((Option N1) × ((Option N1) × (Unit))) → Option ((Bool) × (Unit))) (sf_slices_EqualFunc : ((List (Option N1)) × ((List (Option N1)) × ((Unit) × (Unit)))) → Option ((Bool) × (Unit))) (k : Nat) : T2 := t2 sf_tree_Same sf_slices_EqualFunc
theorem o2 (sf_tree_Same : ((Option N1) × ((Option N1) × (Unit))) → Option ((Bool) × (Unit))) (sf_slices_EqualFunc : ((List (Option N1)) × ((List (Option N1)) × ((Unit) × (Unit)))) → Option ((Bool) × (Unit))) (k : Nat) : l2 sf_tree_Same sf_slices_EqualFunc k = p2 sf_tree_Same sf_slices_EqualFunc k := (Eq.trans (b := u2 sf_tree_Same sf_slices_EqualFunc k) (g2 sf_tree_Same sf_slices_EqualFunc k) (Eq.trans (b := t2 sf_tree_Same sf_slices_EqualFunc) (e2 sf_tree_Same sf_slices_EqualFunc k) (by kernel_rfl)))
def t1 (sf_tree_Same : ((Option N1) × ((Option N1) × (Unit))) → Option ((Bool) × (Unit))) (sf_slices_EqualFunc : ((List (Option N1)) × ((List (Option N1)) × ((Unit) × (Unit)))) → Option ((Bool) × (Unit))) (f2 : T2) : T1 := fun x0 x1 x10 => 
  (iteB x10 (ptrR x0 x1 (some (true, ())) (some (false, ()))) (f2 x0 x1))
theorem e1 (sf_tree_Same : ((Option N1) × ((Option N1) × (Unit))) → Option ((Bool) × (Unit))) (sf_slices_EqualFunc : ((List (Option N1)) × ((List (Option N1)) × ((Unit) × (Unit)))) → Option ((Bool) × (Unit))) (k : Nat) : u1 sf_tree_Same sf_slices_EqualFunc k = t1 sf_tree_Same sf_slices_EqualFunc (l2 sf_tree_Same sf_slices_EqualFunc k) := by kernel_rfl
theorem g1 (sf_tree_Same : ((Option N1) × ((Option N1) × (Unit))) → Option ((Bool) × (Unit))) (sf_slices_EqualFunc : ((List (Option N1)) × ((List (Option N1)) × ((Unit) × (Unit)))) → Option ((Bool) × (Unit))) (k : Nat) : l1 sf_tree_Same sf_slices_EqualFunc k = u1 sf_tree_Same sf_slices_EqualFunc k := funext fun _ => funext fun _ => funext fun _ => cut_u _ _ _
theorem d1 (sf_tree_Same : ((Option N1) × ((Option N1) × (Unit))) → Option ((Bool) × (Unit))) (sf_slices_EqualFunc : ((List (Option N1)) × ((List (Option N1)) × ((Unit) × (Unit)))) → Option ((Bool) × (Unit))) {x2 y2 : T2} (h2 : x2 = y2) : t1 sf_tree_Same sf_slices_EqualFunc x2 = t1 sf_tree_Same sf_slices_EqualFunc y2 := by subst h2; rfl
def p1 (sf_tree_Same : ((Option N1) × ((Option N1) × (Unit))) → Option ((Bool) × (Unit))) (sf_slices_EqualFunc : ((List (Option N1)) × ((List (Option N1)) × ((Unit) × (Unit)))) → Option ((Bool) × (Unit))) (k : Nat) : T1 := t1 sf_tree_Same sf_slices_EqualFunc (p2 sf_tree_Same sf_slices_EqualFunc k)
theorem o1 (sf_tree_Same : ((Option N1) × ((Option N1) × (Unit))) → Option ((Bool) × (Unit))) (sf_slices_EqualFunc : ((List (Option N1)) × ((List (Option N1)) × ((Unit) × (Unit)))) → Option ((Bool) × (Unit))) (k : Nat) : l1 sf_tree_Same sf_slices_EqualFunc k = p1 sf_tree_Same sf_slices_EqualFunc k := (Eq.trans (b := u1 sf_tree_Same sf_slices_EqualFunc k) (g1 sf_tree_Same sf_slices_EqualFunc k) (Eq.trans (b := t1 sf_tree_Same sf_slices_EqualFunc (l2 sf_tree_Same sf_slices_EqualFunc k)) (e1 sf_tree_Same sf_slices_EqualFunc k) (Eq.trans (b := t1 sf_tree_Same sf_slices_EqualFunc (p2 sf_tree_Same sf_slices_EqualFunc k)) (d1 sf_tree_Same sf_slices_EqualFunc (o2 sf_tree_Same sf_slices_EqualFunc k)) (by kernel_rfl))))
def t0 (sf_tree_Same : ((Option N1) × ((Option N1) × (Unit))) → Option ((Bool) × (Unit))) (sf_slices_EqualFunc : ((List (Option N1)) × ((List (Option N1)) × ((Unit) × (Unit)))) → Option ((Bool) × (Unit))) (f1 : T1) : T0 := fun x0 x1 => 
  (iteB (Option.isNone x0) (f1 x0 x1 true) (f1 x0 x1 (Option.isNone x1)))
theorem e0 (sf_tree_Same : ((Option N1) × ((Option N1) × (Unit))) → Option ((Bool) × (Unit))) (sf_slices_EqualFunc : ((List (Option N1)) × ((List (Option N1)) × ((Unit) × (Unit)))) → Option ((Bool) × (Unit))) (k : Nat) : u0 sf_tree_Same sf_slices_EqualFunc k = t0 sf_tree_Same sf_slices_EqualFunc (l1 sf_tree_Same sf_slices_EqualFunc k) := by kernel_rfl
theorem d0 (sf_tree_Same : ((Option N1) × ((Option N1) × (Unit))) → Option ((Bool) × (Unit))) (sf_slices_EqualFunc : ((List (Option N1)) × ((List (Option N1)) × ((Unit) × (Unit)))) → Option ((Bool) × (Unit))) {x1 y1 : T1} (h1 : x1 = y1) : t0 sf_tree_Same sf_slices_EqualFunc x1 = t0 sf_tree_Same sf_slices_EqualFunc y1 := by subst h1; rfl
def p0 (sf_tree_Same : ((Option N1) × ((Option N1) × (Unit))) → Option ((Bool) × (Unit))) (sf_slices_EqualFunc : ((List (Option N1)) × ((List (Option N1)) × ((Unit) × (Unit)))) → Option ((Bool) × (Unit))) (k : Nat) : T0 := t0 sf_tree_Same sf_slices_EqualFunc (p1 sf_tree_Same sf_slices_EqualFunc k)
theorem o0 (sf_tree_Same : ((Option N1) × ((Option N1) × (Unit))) → Option ((Bool) × (Unit))) (sf_slices_EqualFunc : ((List (Option N1)) × ((List (Option N1)) × ((Unit) × (Unit)))) → Option ((Bool) × (Unit))) (k : Nat) : u0 sf_tree_Same sf_slices_EqualFunc k = p0 sf_tree_Same sf_slices_EqualFunc k := (Eq.trans (b := t0 sf_tree_Same sf_slices_EqualFunc (l1 sf_tree_Same sf_slices_EqualFunc k)) (e0 sf_tree_Same sf_slices_EqualFunc k) (Eq.trans (b := t0 sf_tree_Same sf_slices_EqualFunc (p1 sf_tree_Same sf_slices_EqualFunc k)) (d0 sf_tree_Same sf_slices_EqualFunc (o1 sf_tree_Same sf_slices_EqualFunc k)) (by kernel_rfl)))
end tree_Same
namespace slices_EqualFunc
def E (sf_tree_Same : ((Option N1) × ((Option N1) × (Unit))) → Option ((Bool) × (Unit))) (sf_slices_EqualFunc : ((List (Option N1)) × ((List (Option N1)) × ((Unit) × (Unit)))) → Option ((Bool) × (Unit))) : Env cx := { tys := tys, fs := fsOf [(21, (Fr_tree_Same sf_tree_Same))] }
abbrev R := Option ((Bool) × (Unit))
abbrev C := Exit → ST cx → R
noncomputable def b : Code := bodyC Try.f44
def h : Hint := { vs := [0, 1, 2, 6, 7, 8, 9, 15, 16, 17], nil := [], cuts := [(4, ([1, 2, 15, 16, 17], []), ([], [])), (10, ([], []), ([], []))], ret := ([6], []), ords := [] }
def K0 (sf_tree_Same : ((Option N1) × ((Option N1) × (Unit))) → Option ((Bool) × (Unit))) (sf_slices_EqualFunc : ((List (Option N1)) × ((List (Option N1)) × ((Unit) × (Unit)))) → Option ((Bool) × (Unit))) : C := fin (S := cx) (E sf_tree_Same sf_slices_EqualFunc) Try.f44.results.toList .bool .ro [] []
def c0 : Code := subC b [1]
def K1 (sf_tree_Same : ((Option N1) × ((Option N1) × (Unit))) → Option ((Bool) × (Unit))) (sf_slices_EqualFunc : ((List (Option N1)) × ((List (Option N1)) × ((Unit) × (Unit)))) → Option ((Bool) × (Unit))) (k : Nat) : C := outD h c0 (K0 sf_tree_Same sf_slices_EqualFunc)
def c1 : Code := subC b [1, 1]
def K3 (sf_tree_Same : ((Option N1) × ((Option N1) × (Unit))) → Option ((Bool) × (Unit))) (sf_slices_EqualFunc : ((List (Option N1)) × ((List (Option N1)) × ((Unit) × (Unit)))) → Option ((Bool) × (Unit))) (k : Nat) : C := outD h c1 (K1 sf_tree_Same sf_slices_EqualFunc k)
def c4 : Code := subC b [1, 1, 1]
def K9 (sf_tree_Same : ((Option N1) × ((Option N1) × (Unit))) → Option ((Bool) × (Unit))) (sf_slices_EqualFunc : ((List (Option N1)) × ((List (Option N1)) × ((Unit) × (Unit)))) → Option ((Bool) × (Unit))) (k : Nat) : C := outD h c4 (K3 sf_tree_Same sf_slices_EqualFunc k)
def K10 (sf_tree_Same : ((Option N1) × ((Option N1) × (Unit))) → Option ((Bool) × (Unit))) (sf_slices_EqualFunc : ((List (Option N1)) × ((List (Option N1)) × ((Unit) × (Unit)))) → Option ((Bool) × (Unit))) (k : Nat) : C := seqC (E sf_tree_Same sf_slices_EqualFunc) h k c4 (K3 sf_tree_Same sf_slices_EqualFunc k)
def c5 : Code := subC b [1, 1, 0, 1]
def K11 (sf_tree_Same : ((Option N1) × ((Option N1) × (Unit))) → Option ((Bool) × (Unit))) (sf_slices_EqualFunc : ((List (Option N1)) × ((List (Option N1)) × ((Unit) × (Unit)))) → Option ((Bool) × (Unit))) (k : Nat) : C := outD h c5 (K10 sf_tree_Same sf_slices_EqualFunc k)
def K13 (sf_tree_Same : ((Option N1) × ((Option N1) × (Unit))) → Option ((Bool) × (Unit))) (sf_slices_EqualFunc : ((List (Option N1)) × ((List (Option N1)) × ((Unit) × (Unit)))) → Option ((Bool) × (Unit))) (k : Nat) : C := blockK 0 (K11 sf_tree_Same sf_slices_EqualFunc k)
def c6 : Code := subC b [1, 1, 0, 1, 0, 0]
abbrev T2 := R
abbrev T1 := (List (Option N1)) → Unit → (List (Option N1)) → Int → Int → R
abbrev T0 := (List (Option N1)) → (List (Option N1)) → Unit → R
abbrev s2 : ST cx := ({ vars := [], scr := [], mems := [] } : ST cx)
def u2 (sf_tree_Same : ((Option N1) × ((Option N1) × (Unit))) → Option ((Bool) × (Unit))) (sf_slices_EqualFunc : ((List (Option N1)) × ((List (Option N1)) × ((Unit) × (Unit)))) → Option ((Bool) × (Unit))) (k : Nat) : T2 := uK (run (E sf_tree_Same sf_slices_EqualFunc) h k c4) s2 (K9 sf_tree_Same sf_slices_EqualFunc k)
abbrev l2 (sf_tree_Same : ((Option N1) × ((Option N1) × (Unit))) → Option ((Bool) × (Unit))) (sf_slices_EqualFunc : ((List (Option N1)) × ((List (Option N1)) × ((Unit) × (Unit)))) → Option ((Bool) × (Unit))) (k : Nat) : T2 := cutK (run (E sf_tree_Same sf_slices_EqualFunc) h k c4) s2 (K9 sf_tree_Same sf_slices_EqualFunc k)
abbrev s1 := fun x1 x2 x15 x16 x17 => ({ vars := [(1, .v (.slice 35 (.ptr 1)) .ro x1), (2, .v (.clo 21 .unit) .ro x2), (15, .v (.slice 35 (.ptr 1)) .ro x15), (16, .v (.int .i64) .ro x16), (17, .v (.int .i64) .ro x17)], scr := [], mems := [] } : ST cx)
def u1 (sf_tree_Same : ((Option N1) × ((Option N1) × (Unit))) → Option ((Bool) × (Unit))) (sf_slices_EqualFunc : ((List (Option N1)) × ((List (Option N1)) × ((Unit) × (Unit)))) → Option ((Bool) × (Unit))) (k n1 : Nat) : T1 := fun x1 x2 x15 x16 x17 => uK (loopL (E sf_tree_Same sf_slices_EqualFunc) h k c6 (K13 sf_tree_Same sf_slices_EqualFunc k) n1) (s1 x1 x2 x15 x16 x17) ()
abbrev l1 (sf_tree_Same : ((Option N1) × ((Option N1) × (Unit))) → Option ((Bool) × (Unit))) (sf_slices_EqualFunc : ((List (Option N1)) × ((List (Option N1)) × ((Unit) × (Unit)))) → Option ((Bool) × (Unit))) (k n1 : Nat) : T1 := fun x1 x2 x15 x16 x17 => cutK (loopL (E sf_tree_Same sf_slices_EqualFunc) h k c6 (K13 sf_tree_Same sf_slices_EqualFunc k) n1) (s1 x1 x2 x15 x16 x17) ()
def u0 (sf_tree_Same : ((Option N1) × ((Option N1) × (Unit))) → Option ((Bool) × (Unit))) (sf_slices_EqualFunc : ((List (Option N1)) × ((List (Option N1)) × ((Unit) × (Unit)))) → Option ((Bool) × (Unit))) (k : Nat) : T0 := fun x0 x1 x2 => runOf (S := cx) (E sf_tree_Same sf_slices_EqualFunc) h k Try.f44 [.val (.slice 35 (.ptr 1)), .val (.slice 35 (.ptr 1)), .val (.clo 21 .unit)] .bool .ro (x0, x1, x2, ())
def t2 (sf_tree_Same : ((Option N1) × ((Option N1) × (Unit))) → Option ((Bool) × (Unit))) (sf_slices_EqualFunc : ((List (Option N1)) × ((List (Option N1)) × ((Unit) × (Unit)))) → Option ((Bool) × (Unit))) : T2 := 
  (some (true, ()))
theorem e2 (sf_tree_Same : ((Option N1) × ((Option N1) × (Unit))) → Option ((Bool) × (Unit))) (sf_slices_EqualFunc : ((List (Option N1)) × ((List (Option N1)) × ((Unit) × (Unit)))) → Option ((Bool) × (Unit))) (k : Nat) : u2 sf_tree_Same sf_slices_EqualFunc k = t2 sf_tree_Same sf_slices_EqualFunc := by kernel_rfl
theorem g2 (sf_tree_Same : ((Option N1) × ((Option N1) × (Unit))) → Option ((Bool) × (Unit))) (sf_slices_EqualFunc : ((List (Option N1)) × ((List (Option N1)) × ((Unit) × (Unit)))) → Option ((Bool) × (Unit))) (k : Nat) : l2 sf_tree_Same sf_slices_EqualFunc k = u2 sf_tree_Same sf_slices_EqualFunc k := cut_u _ _ _
def p2 (sf_tree_Same : ((Option N1) × ((Option N1) × (Unit))) → Option ((Bool) × (Unit))) (sf_slices_EqualFunc : ((List (Option N1)) × ((List (Option N1)) × ((Unit) × (Unit)))) → Option ((Bool) × (Unit))) (k : Nat) : T2 := t2 sf_tree_Same sf_slices_EqualFunc
theorem o2 (sf_tree_Same : ((Option N1) × ((Option N1) × (Unit))) → Option ((Bool) × (Unit))) (sf_slices_EqualFunc : ((List (Option N1)) × ((List (Option N1)) × ((Unit) × (Unit)))) → Option ((Bool) × (Unit))) (k : Nat) : l2 sf_tree_Same sf_slices_EqualFunc k = p2 sf_tree_Same sf_slices_EqualFunc k := (Eq.trans (b := u2 sf_tree_Same sf_slices_EqualFunc k) (g2 sf_tree_Same sf_slices_EqualFunc k) (Eq.trans (b := t2 sf_tree_Same sf_slices_EqualFunc) (e2 sf_tree_Same sf_slices_EqualFunc k) (by kernel_rfl)))
def t1 (sf_tree_Same : ((Option N1) × ((Option N1) × (Unit))) → Option ((Bool) × (Unit))) (sf_slices_EqualFunc : ((List (Option N1)) × ((List (Option N1)) × ((Unit) × (Unit)))) → Option ((Bool) × (Unit))) (f1 : T1) (f2 : T2) : T1 := fun x1 x2 x15 x16 x17 => 
  (iteB (decide (x17 < x16)) (withinR x17 (List.length x15) fun q1 => (withinR x17 (List.length x1) fun q2 => (bindR (sf_tree_Same ((List.getD x15 q1 none), ((List.getD x1 q2 none), ()))) fun r3 => (iteB (notB r3.1) (some (false, ())) (f1 x1 x2 x15 x16 (w64 (x17 + (1 : Int)))))))) f2)
theorem e1 (sf_tree_Same : ((Option N1) × ((Option N1) × (Unit))) → Option ((Bool) × (Unit))) (sf_slices_EqualFunc : ((List (Option N1)) × ((List (Option N1)) × ((Unit) × (Unit)))) → Option ((Bool) × (Unit))) (k n1 : Nat) : u1 sf_tree_Same sf_slices_EqualFunc k (n1 + 1) = t1 sf_tree_Same sf_slices_EqualFunc (l1 sf_tree_Same sf_slices_EqualFunc k n1) (l2 sf_tree_Same sf_slices_EqualFunc k) := by kernel_rfl
theorem g1 (sf_tree_Same : ((Option N1) × ((Option N1) × (Unit))) → Option ((Bool) × (Unit))) (sf_slices_EqualFunc : ((List (Option N1)) × ((List (Option N1)) × ((Unit) × (Unit)))) → Option ((Bool) × (Unit))) (k n1 : Nat) : l1 sf_tree_Same sf_slices_EqualFunc k (n1 + 1) = u1 sf_tree_Same sf_slices_EqualFunc k (n1 + 1) := funext fun _ => funext fun _ => funext fun _ => funext fun _ => funext fun _ => cut_u _ _ _
theorem d1 (sf_tree_Same : ((Option N1) × ((Option N1) × (Unit))) → Option ((Bool) × (Unit))) (sf_slices_EqualFunc : ((List (Option N1)) × ((List (Option N1)) × ((Unit) × (Unit)))) → Option ((Bool) × (Unit))) {x1 y1 : T1} {x2 y2 : T2} (h1 : x1 = y1) (h2 : x2 = y2) : t1 sf_tree_Same sf_slices_EqualFunc x1 x2 = t1 sf_tree_Same sf_slices_EqualFunc y1 y2 := by subst h1; subst h2; rfl
def p1 (sf_tree_Same : ((Option N1) × ((Option N1) × (Unit))) → Option ((Bool) × (Unit))) (sf_slices_EqualFunc : ((List (Option N1)) × ((List (Option N1)) × ((Unit) × (Unit)))) → Option ((Bool) × (Unit))) (k : Nat) : Nat → T1
  | 0 => fun _ _ _ _ _ => none
  | n1 + 1 => t1 sf_tree_Same sf_slices_EqualFunc (p1 sf_tree_Same sf_slices_EqualFunc k n1) (p2 sf_tree_Same sf_slices_EqualFunc k)
theorem o1 (sf_tree_Same : ((Option N1) × ((Option N1) × (Unit))) → Option ((Bool) × (Unit))) (sf_slices_EqualFunc : ((List (Option N1)) × ((List (Option N1)) × ((Unit) × (Unit)))) → Option ((Bool) × (Unit))) (k : Nat) : ∀ n1, l1 sf_tree_Same sf_slices_EqualFunc k n1 = p1 sf_tree_Same sf_slices_EqualFunc k n1 := by
  intro n1
  induction n1 with
  | zero => kernel_rfl
  | succ n1 ih => exact (Eq.trans (b := u1 sf_tree_Same sf_slices_EqualFunc k (n1 + 1)) (g1 sf_tree_Same sf_slices_EqualFunc k n1) (Eq.trans (b := t1 sf_tree_Same sf_slices_EqualFunc (l1 sf_tree_Same sf_slices_EqualFunc k n1) (l2 sf_tree_Same sf_slices_EqualFunc k)) (e1 sf_tree_Same sf_slices_EqualFunc k n1) (Eq.trans (b := t1 sf_tree_Same sf_slices_EqualFunc (p1 sf_tree_Same sf_slices_EqualFunc k n1) (p2 sf_tree_Same sf_slices_EqualFunc k)) (d1 sf_tree_Same sf_slices_EqualFunc ih (o2 sf_tree_Same sf_slices_EqualFunc k)) (by kernel_rfl))))
def t0 (sf_tree_Same : ((Option N1) × ((Option N1) × (Unit))) → Option ((Bool) × (Unit))) (sf_slices_EqualFunc : ((List (Option N1)) × ((List (Option N1)) × ((Unit) × (Unit)))) → Option ((Bool) × (Unit))) (f1 : T1) : T0 := fun x0 x1 x2 => 
  (iteB (!decide (((List.length x0 : Nat) : Int) = ((List.length x1 : Nat) : Int))) (some (false, ())) (f1 x1 x2 x0 ((List.length x0 : Nat) : Int) (0 : Int)))
theorem e0 (sf_tree_Same : ((Option N1) × ((Option N1) × (Unit))) → Option ((Bool) × (Unit))) (sf_slices_EqualFunc : ((List (Option N1)) × ((List (Option N1)) × ((Unit) × (Unit)))) → Option ((Bool) × (Unit))) (k : Nat) : u0 sf_tree_Same sf_slices_EqualFunc k = t0 sf_tree_Same sf_slices_EqualFunc (l1 sf_tree_Same sf_slices_EqualFunc k k) := by kernel_rfl
theorem d0 (sf_tree_Same : ((Option N1) × ((Option N1) × (Unit))) → Option ((Bool) × (Unit))) (sf_slices_EqualFunc : ((List (Option N1)) × ((List (Option N1)) × ((Unit) × (Unit)))) → Option ((Bool) × (Unit))) {x1 y1 : T1} (h1 : x1 = y1) : t0 sf_tree_Same sf_slices_EqualFunc x1 = t0 sf_tree_Same sf_slices_EqualFunc y1 := by subst h1; rfl
def p0 (sf_tree_Same : ((Option N1) × ((Option N1) × (Unit))) → Option ((Bool) × (Unit))) (sf_slices_EqualFunc : ((List (Option N1)) × ((List (Option N1)) × ((Unit) × (Unit)))) → Option ((Bool) × (Unit))) (k : Nat) : T0 := t0 sf_tree_Same sf_slices_EqualFunc (p1 sf_tree_Same sf_slices_EqualFunc k k)
theorem o0 (sf_tree_Same : ((Option N1) × ((Option N1) × (Unit))) → Option ((Bool) × (Unit))) (sf_slices_EqualFunc : ((List (Option N1)) × ((List (Option N1)) × ((Unit) × (Unit)))) → Option ((Bool) × (Unit))) (k : Nat) : u0 sf_tree_Same sf_slices_EqualFunc k = p0 sf_tree_Same sf_slices_EqualFunc k := (Eq.trans (b := t0 sf_tree_Same sf_slices_EqualFunc (l1 sf_tree_Same sf_slices_EqualFunc k k)) (e0 sf_tree_Same sf_slices_EqualFunc k) (Eq.trans (b := t0 sf_tree_Same sf_slices_EqualFunc (p1 sf_tree_Same sf_slices_EqualFunc k k)) (d0 sf_tree_Same sf_slices_EqualFunc (o1 sf_tree_Same sf_slices_EqualFunc k k)) (by kernel_rfl)))
end slices_EqualFunc
mutual
def r_tree_Same : Nat → ((Option N1) × ((Option N1) × (Unit))) → Option ((Bool) × (Unit))
  | 0, _ => none
  | n + 1, a => tree_Same.p0 (r_tree_Same n) (r_slices_EqualFunc n) (fuel) a.1 a.2.1
def r_slices_EqualFunc : Nat → ((List (Option N1)) × ((List (Option N1)) × ((Unit) × (Unit)))) → Option ((Bool) × (Unit))
  | 0, _ => none
  | n + 1, a => slices_EqualFunc.p0 (r_tree_Same n) (r_slices_EqualFunc n) (fuel) a.1 a.2.1 a.2.2.1
end
theorem okr_tree_Same : ∀ n, FnOk Try.prog (Fr_tree_Same (r_tree_Same n)) 21 ∧ FnOk Try.prog (Fr_slices_EqualFunc (r_slices_EqualFunc n)) 44
  | 0 => ⟨fn_none (fun _ => rfl), fn_none (fun _ => rfl)⟩
  | n + 1 => ⟨fn_of (F := Fr_tree_Same (r_tree_Same (n + 1))) (hn := tree_Same.h) (E := tree_Same.E (r_tree_Same n) (r_slices_EqualFunc n)) cxOk (tysT _ _) (fs_cons (okr_tree_Same n).2 fs_nil) follows Try.func21 (by kernel_rfl) (fun a r h => ⟨fuel, Eq.trans (c := some r) (congrFun (congrFun (tree_Same.o0 (r_tree_Same n) (r_slices_EqualFunc n) (fuel)) a.1) a.2.1) h⟩), fn_of (F := Fr_slices_EqualFunc (r_slices_EqualFunc (n + 1))) (hn := slices_EqualFunc.h) (E := slices_EqualFunc.E (r_tree_Same n) (r_slices_EqualFunc n)) cxOk (tysT _ _) (fs_cons (okr_tree_Same n).1 fs_nil) follows Try.func44 (by kernel_rfl) (fun a r h => ⟨fuel, Eq.trans (c := some r) (congrFun (congrFun (congrFun (slices_EqualFunc.o0 (r_tree_Same n) (r_slices_EqualFunc n) (fuel)) a.1) a.2.1) a.2.2.1) h⟩)⟩
def s_tree_Same (a : (Option N1) × ((Option N1) × (Unit))) : Option ((Bool) × (Unit)) := r_tree_Same (fuel) a
def F_tree_Same : FSpec cx.toNm := Fr_tree_Same s_tree_Same
theorem ok_tree_Same : FnOk Try.prog F_tree_Same 21 := fun w Z own vs a r h1 h2 h3 h4 => (okr_tree_Same (fuel)).1 w Z own vs a r h1 h2 h3 h4
namespace tree_nameOf
def E : Env cx := { tys := tys, fs := fsOf [] }
abbrev R := Option ((List UInt8) × (Unit))
abbrev C := Exit → ST cx → R
noncomputable def b : Code := bodyC Try.f47
def h : Hint := { vs := [0, 1, 2, 4], nil := [], cuts := [(2, ([1, 2, 13], [2]), ([1, 2], [2])), (3, ([1, 2], [2]), ([1, 2], [2]))], ret := ([4], [2]), ords := [] }
def K0 : C := fin (S := cx) E Try.f47.results.toList .str .ro [] []
def c0 : Code := subC b [1]
def K1 (k : Nat) : C := outD h c0 K0
def c1 : Code := subC b [1, 1]
def K3 (k : Nat) : C := outD h c1 (K1 k)
def K4 (k : Nat) : C := seqC E h k c1 (K1 k)
def c2 : Code := subC b [1, 0, 1]
def K5 (k : Nat) : C := outD h c2 (K4 k)
abbrev T2 := Int → D0 → R
abbrev T1 := Int → Bool → D0 → R
abbrev T0 := D0 → Int → R
abbrev s2 := fun x1 m2 => ({ vars := [(1, .v (.int .i64) .ro x1), (2, .addr (.mem 2) [])], scr := [], mems := [(2, ⟨ty0, .ro, m2⟩)] } : ST cx)
def u2 (k : Nat) : T2 := fun x1 m2 => uK (run E h k c1) (s2 x1 m2) (K3 k)
abbrev l2 (k : Nat) : T2 := fun x1 m2 => cutK (run E h k c1) (s2 x1 m2) (K3 k)
abbrev s1 := fun x1 x13 m2 => ({ vars := [(1, .v (.int .i64) .ro x1), (2, .addr (.mem 2) []), (13, .v .bool .ro x13)], scr := [], mems := [(2, ⟨ty0, .ro, m2⟩)] } : ST cx)
def u1 (k : Nat) : T1 := fun x1 x13 m2 => uK (run E h k c2) (s1 x1 x13 m2) (K5 k)
abbrev l1 (k : Nat) : T1 := fun x1 x13 m2 => cutK (run E h k c2) (s1 x1 x13 m2) (K5 k)
def u0 (k : Nat) : T0 := fun x0 x1 => runOf (S := cx) E h k Try.f47 [.val ty0, .val (.int .i64)] .str .ro (x0, x1, ())
def t2 : T2 := fun x1 m2 => 
  (withinR x1 (List.length m2.1) fun q1 => (some ((List.getD m2.1 q1 ([] : List UInt8)), ())))
theorem e2 (k : Nat) : u2 k = t2 := by kernel_rfl
theorem g2 (k : Nat) : l2 k = u2 k := funext fun _ => funext fun _ => cut_u _ _ _
def p2 (k : Nat) : T2 := t2
theorem o2 (k : Nat) : l2 k = p2 k := (Eq.trans (b := u2 k) (g2 k) (Eq.trans (b := t2) (e2 k) (by kernel_rfl)))
def t1 (f2 : T2) : T1 := fun x1 x13 m2 => 
  (iteB x13 (some (([63] : List UInt8), ())) (f2 x1 m2))
theorem e1 (k : Nat) : u1 k = t1 (l2 k) := by kernel_rfl
theorem g1 (k : Nat) : l1 k = u1 k := funext fun _ => funext fun _ => funext fun _ => cut_u _ _ _
theorem d1 {x2 y2 : T2} (h2 : x2 = y2) : t1 x2 = t1 y2 := by subst h2; rfl
def p1 (k : Nat) : T1 := t1 (p2 k)
theorem o1 (k : Nat) : l1 k = p1 k := (Eq.trans (b := u1 k) (g1 k) (Eq.trans (b := t1 (l2 k)) (e1 k) (Eq.trans (b := t1 (p2 k)) (d1 (o2 k)) (by kernel_rfl))))
def t0 (f1 : T1) : T0 := fun x0 x1 => 
  (iteB (decide (x1 < (0 : Int))) (f1 x1 true x0) (f1 x1 (decide (((List.length x0.1 : Nat) : Int) ≤ x1)) x0))
theorem e0 (k : Nat) : u0 k = t0 (l1 k) := by kernel_rfl
theorem d0 {x1 y1 : T1} (h1 : x1 = y1) : t0 x1 = t0 y1 := by subst h1; rfl
def p0 (k : Nat) : T0 := t0 (p1 k)
theorem o0 (k : Nat) : u0 k = p0 k := (Eq.trans (b := t0 (l1 k)) (e0 k) (Eq.trans (b := t0 (p1 k)) (d0 (o1 k)) (by kernel_rfl)))
end tree_nameOf
def s_tree_nameOf (a : (D0) × ((Int) × (Unit))) : Option ((List UInt8) × (Unit)) := tree_nameOf.p0 (fuel) a.1 a.2.1
def F_tree_nameOf : FSpec cx.toNm := { ps := [.val ty0, .val (.int .i64)], nres := 1, rt := .str, rm := .ro, f := s_tree_nameOf }
theorem w_tree_nameOf (a : (D0) × ((Int) × (Unit))) : runOf (S := cx) tree_nameOf.E tree_nameOf.h (fuel) Try.f47 F_tree_nameOf.ps F_tree_nameOf.rt F_tree_nameOf.rm a = F_tree_nameOf.f a := Eq.trans (b := tree_nameOf.u0 (fuel) a.1 a.2.1) (by kernel_rfl) (Eq.trans (b := tree_nameOf.p0 (fuel) a.1 a.2.1) (congrFun (congrFun (tree_nameOf.o0 (fuel)) a.1) a.2.1) (by kernel_rfl))
theorem ok_tree_nameOf : FnOk Try.prog F_tree_nameOf 47 := fn_of (hn := tree_nameOf.h) (E := tree_nameOf.E) cxOk (tysT _ _) fs_nil follows Try.func47 (by kernel_rfl) (fun a r h => ⟨fuel, Eq.trans (w_tree_nameOf a) h⟩)
def Fr_tree_Show (f : ((D0) × ((Option N1) × (Unit))) → Option ((List UInt8) × (Unit))) : FSpec cx.toNm := { ps := [.val ty0, .val (.ptr 1)], nres := 1, rt := .str, rm := .ro, f := f }
namespace tree_Show
def E (sf_tree_Show : ((D0) × ((Option N1) × (Unit))) → Option ((List UInt8) × (Unit))) : Env cx := { tys := tys, fs := fsOf [(31, (Fr_tree_Show sf_tree_Show)), (47, F_tree_nameOf), (48, F_Join)] }
abbrev R := Option ((List UInt8) × (Unit))
abbrev C := Exit → ST cx → R
noncomputable def b : Code := bodyC Try.f31
def h : Hint := { vs := [0, 1, 2, 4, 5, 7, 30, 31, 32], nil := [(5, (.own .ro))], cuts := [(7, ([1, 2, 5, 30, 31, 32], [2]), ([1, 2, 5], [2])), (11, ([1, 2, 5], [2]), ([1, 2, 5], [2]))], ret := ([4], [2]), ords := [(4, [0, 1, 2, 3, 4, 7, 8, 9, 10, 5, 6, 11, 12]), (11, [0, 1, 2, 3, 4, 7, 5, 6, 8, 9, 10, 11])] }
def K0 (sf_tree_Show : ((D0) × ((Option N1) × (Unit))) → Option ((List UInt8) × (Unit))) : C := fin (S := cx) (E sf_tree_Show) Try.f31.results.toList .str .ro [] []
def c0 : Code := subC b [1]
def K1 (sf_tree_Show : ((D0) × ((Option N1) × (Unit))) → Option ((List UInt8) × (Unit))) (k : Nat) : C := outD h c0 (K0 sf_tree_Show)
def c1 : Code := subC b [1, 1]
def K3 (sf_tree_Show : ((D0) × ((Option N1) × (Unit))) → Option ((List UInt8) × (Unit))) (k : Nat) : C := outD h c1 (K1 sf_tree_Show k)
def c4 : Code := subC b [1, 1, 1]
def K9 (sf_tree_Show : ((D0) × ((Option N1) × (Unit))) → Option ((List UInt8) × (Unit))) (k : Nat) : C := outD h c4 (K3 sf_tree_Show k)
def c7 : Code := subC b [1, 1, 1, 1]
def K15 (sf_tree_Show : ((D0) × ((Option N1) × (Unit))) → Option ((List UInt8) × (Unit))) (k : Nat) : C := outD h c7 (K9 sf_tree_Show k)
def c8 : Code := subC b [1, 1, 1, 1, 1]
def K17 (sf_tree_Show : ((D0) × ((Option N1) × (Unit))) → Option ((List UInt8) × (Unit))) (k : Nat) : C := outD h c8 (K15 sf_tree_Show k)
def K18 (sf_tree_Show : ((D0) × ((Option N1) × (Unit))) → Option ((List UInt8) × (Unit))) (k : Nat) : C := seqC (E sf_tree_Show) h k c8 (K15 sf_tree_Show k)
def c9 : Code := subC b [1, 1, 1, 1, 0, 1]
def K19 (sf_tree_Show : ((D0) × ((Option N1) × (Unit))) → Option ((List UInt8) × (Unit))) (k : Nat) : C := outD h c9 (K18 sf_tree_Show k)
def K21 (sf_tree_Show : ((D0) × ((Option N1) × (Unit))) → Option ((List UInt8) × (Unit))) (k : Nat) : C := blockK 0 (K19 sf_tree_Show k)
def c10 : Code := subC b [1, 1, 1, 1, 0, 1, 0, 0]
abbrev T2 := (Option N1) → (List (List UInt8)) → D0 → R
abbrev T1 := (Option N1) → (List (List UInt8)) → (List (Option N1)) → Int → Int → D0 → R
abbrev T0 := D0 → (Option N1) → R
abbrev s2 := fun x1 x5 m2 => ({ vars := [(1, .v (.ptr 1) .ro x1), (2, .addr (.mem 2) []), (5, .v (.slice 9 .str) (.own .ro) x5)], scr := [], mems := [(2, ⟨ty0, .ro, m2⟩)] } : ST cx)
def u2 (sf_tree_Show : ((D0) × ((Option N1) × (Unit))) → Option ((List UInt8) × (Unit))) (k : Nat) : T2 := fun x1 x5 m2 => uK (run (E sf_tree_Show) h k c8) (s2 x1 x5 m2) (K17 sf_tree_Show k)
abbrev l2 (sf_tree_Show : ((D0) × ((Option N1) × (Unit))) → Option ((List UInt8) × (Unit))) (k : Nat) : T2 := fun x1 x5 m2 => cutK (run (E sf_tree_Show) h k c8) (s2 x1 x5 m2) (K17 sf_tree_Show k)
abbrev s1 := fun x1 x5 x30 x31 x32 m2 => ({ vars := [(1, .v (.ptr 1) .ro x1), (2, .addr (.mem 2) []), (5, .v (.slice 9 .str) (.own .ro) x5), (30, .v (.slice 35 (.ptr 1)) .ro x30), (31, .v (.int .i64) .ro x31), (32, .v (.int .i64) .ro x32)], scr := [], mems := [(2, ⟨ty0, .ro, m2⟩)] } : ST cx)
def u1 (sf_tree_Show : ((D0) × ((Option N1) × (Unit))) → Option ((List UInt8) × (Unit))) (k n1 : Nat) : T1 := fun x1 x5 x30 x31 x32 m2 => uK (loopL (E sf_tree_Show) h k c10 (K21 sf_tree_Show k) n1) (s1 x1 x5 x30 x31 x32 m2) ()
abbrev l1 (sf_tree_Show : ((D0) × ((Option N1) × (Unit))) → Option ((List UInt8) × (Unit))) (k n1 : Nat) : T1 := fun x1 x5 x30 x31 x32 m2 => cutK (loopL (E sf_tree_Show) h k c10 (K21 sf_tree_Show k) n1) (s1 x1 x5 x30 x31 x32 m2) ()
def u0 (sf_tree_Show : ((D0) × ((Option N1) × (Unit))) → Option ((List UInt8) × (Unit))) (k : Nat) : T0 := fun x0 x1 => runOf (S := cx) (E sf_tree_Show) h k Try.f31 [.val ty0, .val (.ptr 1)] .str .ro (x0, x1, ())
def t2 (sf_tree_Show : ((D0) × ((Option N1) × (Unit))) → Option ((List UInt8) × (Unit))) : T2 := fun x1 x5 m2 => 
  (bindR x1 fun z8 => (bindR (s_tree_nameOf (m2, ((out1 z8).1, ()))) fun r9 => (mustR (decide (List.length r9.1 + List.length ([40] : List UInt8) ≤ 140737488355328)) (bindR (s_Join (x5, (([32] : List UInt8), ()))) fun r10 => (mustR (decide (List.length (r9.1 ++ ([40] : List UInt8)) + List.length r10.1 ≤ 140737488355328)) (mustR (decide (List.length ((r9.1 ++ ([40] : List UInt8)) ++ r10.1) + List.length ([41] : List UInt8) ≤ 140737488355328)) (some ((((r9.1 ++ ([40] : List UInt8)) ++ r10.1) ++ ([41] : List UInt8)), ()))))))))
theorem e2 (sf_tree_Show : ((D0) × ((Option N1) × (Unit))) → Option ((List UInt8) × (Unit))) (k : Nat) : u2 sf_tree_Show k = t2 sf_tree_Show := by kernel_rfl
theorem g2 (sf_tree_Show : ((D0) × ((Option N1) × (Unit))) → Option ((List UInt8) × (Unit))) (k : Nat) : l2 sf_tree_Show k = u2 sf_tree_Show k := funext fun _ => funext fun _ => funext fun _ => cut_u _ _ _
def p2 (sf_tree_Show : ((D0) × ((Option N1) × (Unit))) → Option ((List UInt8) × (Unit))) (k : Nat) : T2 := t2 sf_tree_Show
theorem o2 (sf_tree_Show : ((D0) × ((Option N1) × (Unit))) → Option ((List UInt8) × (Unit))) (k : Nat) : l2 sf_tree_Show k = p2 sf_tree_Show k := (Eq.trans (b := u2 sf_tree_Show k) (g2 sf_tree_Show k) (Eq.trans (b := t2 sf_tree_Show) (e2 sf_tree_Show k) (by kernel_rfl)))
def t1 (sf_tree_Show : ((D0) × ((Option N1) × (Unit))) → Option ((List UInt8) × (Unit))) (f1 : T1) (f2 : T2) : T1 := fun x1 x5 x30 x31 x32 m2 => 
  (iteB (decide (x32 < x31)) (withinR x32 (List.length x30) fun q6 => (bindR (sf_tree_Show (m2, ((List.getD x30 q6 none), ()))) fun r7 => (mustR (room x5 ([r7.1] : List (List UInt8))) (f1 x1 (x5 ++ ([r7.1] : List (List UInt8))) x30 x31 (w64 (x32 + (1 : Int))) m2)))) (f2 x1 x5 m2))
theorem e1 (sf_tree_Show : ((D0) × ((Option N1) × (Unit))) → Option ((List UInt8) × (Unit))) (k n1 : Nat) : u1 sf_tree_Show k (n1 + 1) = t1 sf_tree_Show (l1 sf_tree_Show k n1) (l2 sf_tree_Show k) := by kernel_rfl
theorem g1 (sf_tree_Show : ((D0) × ((Option N1) × (Unit))) → Option ((List UInt8) × (Unit))) (k n1 : Nat) : l1 sf_tree_Show k (n1 + 1) = u1 sf_tree_Show k (n1 + 1) := funext fun _ => funext fun _ => funext fun _ => funext fun _ => funext fun _ => funext fun _ => cut_u _ _ _
theorem d1 (sf_tree_Show : ((D0) × ((Option N1) × (Unit))) → Option ((List UInt8) × (Unit))) {x1 y1 : T1} {x2 y2 : T2} (h1 : x1 = y1) (h2 : x2 = y2) : t1 sf_tree_Show x1 x2 = t1 sf_tree_Show y1 y2 := by subst h1; subst h2; rfl
def p1 (sf_tree_Show : ((D0) × ((Option N1) × (Unit))) → Option ((List UInt8) × (Unit))) (k : Nat) : Nat → T1
  | 0 => fun _ _ _ _ _ _ => none
  | n1 + 1 => t1 sf_tree_Show (p1 sf_tree_Show k n1) (p2 sf_tree_Show k)
theorem o1 (sf_tree_Show : ((D0) × ((Option N1) × (Unit))) → Option ((List UInt8) × (Unit))) (k : Nat) : ∀ n1, l1 sf_tree_Show k n1 = p1 sf_tree_Show k n1 := by
  intro n1
  induction n1 with
  | zero => kernel_rfl
  | succ n1 ih => exact (Eq.trans (b := u1 sf_tree_Show k (n1 + 1)) (g1 sf_tree_Show k n1) (Eq.trans (b := t1 sf_tree_Show (l1 sf_tree_Show k n1) (l2 sf_tree_Show k)) (e1 sf_tree_Show k n1) (Eq.trans (b := t1 sf_tree_Show (p1 sf_tree_Show k n1) (p2 sf_tree_Show k)) (d1 sf_tree_Show ih (o2 sf_tree_Show k)) (by kernel_rfl))))
def t0 (sf_tree_Show : ((D0) × ((Option N1) × (Unit))) → Option ((List UInt8) × (Unit))) (f1 : T1) : T0 := fun x0 x1 => 
  (iteB (Option.isNone x1) (some (([] : List UInt8), ())) (bindR x1 fun z1 => (iteB (decide ((out1 z1).2.1 = (-1 : Int))) (bindR x1 fun z2 => (bindR x1 fun z3 => (bindR (s_tree_nameOf (x0, ((out1 z2).1, ()))) fun r4 => (mustR (decide (List.length r4.1 + List.length ([58] : List UInt8) ≤ 140737488355328)) (mustR (decide (List.length (r4.1 ++ ([58] : List UInt8)) + List.length (out1 z3).2.2.1 ≤ 140737488355328)) (some (((r4.1 ++ ([58] : List UInt8)) ++ (out1 z3).2.2.1), ()))))))) (bindR x1 fun z5 => (f1 x1 ([] : List (List UInt8)) ((out1 z5).2.2.2.1) ((List.length (out1 z5).2.2.2.1 : Nat) : Int) (0 : Int) x0)))))
theorem e0 (sf_tree_Show : ((D0) × ((Option N1) × (Unit))) → Option ((List UInt8) × (Unit))) (k : Nat) : u0 sf_tree_Show k = t0 sf_tree_Show (l1 sf_tree_Show k k) := by kernel_rfl
theorem d0 (sf_tree_Show : ((D0) × ((Option N1) × (Unit))) → Option ((List UInt8) × (Unit))) {x1 y1 : T1} (h1 : x1 = y1) : t0 sf_tree_Show x1 = t0 sf_tree_Show y1 := by subst h1; rfl
def p0 (sf_tree_Show : ((D0) × ((Option N1) × (Unit))) → Option ((List UInt8) × (Unit))) (k : Nat) : T0 := t0 sf_tree_Show (p1 sf_tree_Show k k)
theorem o0 (sf_tree_Show : ((D0) × ((Option N1) × (Unit))) → Option ((List UInt8) × (Unit))) (k : Nat) : u0 sf_tree_Show k = p0 sf_tree_Show k := (Eq.trans (b := t0 sf_tree_Show (l1 sf_tree_Show k k)) (e0 sf_tree_Show k) (Eq.trans (b := t0 sf_tree_Show (p1 sf_tree_Show k k)) (d0 sf_tree_Show (o1 sf_tree_Show k k)) (by kernel_rfl)))
end tree_Show
def r_tree_Show : Nat → ((D0) × ((Option N1) × (Unit))) → Option ((List UInt8) × (Unit))
  | 0, _ => none
  | n + 1, a => tree_Show.p0 (r_tree_Show n) (fuel) a.1 a.2.1
theorem okr_tree_Show : ∀ n, FnOk Try.prog (Fr_tree_Show (r_tree_Show n)) 31
  | 0 => fn_none (fun _ => rfl)
  | n + 1 => fn_of (F := Fr_tree_Show (r_tree_Show (n + 1))) (hn := tree_Show.h) (E := tree_Show.E (r_tree_Show n)) cxOk (tysT _ _) (fs_cons (okr_tree_Show n) (fs_cons ok_tree_nameOf (fs_cons ok_Join fs_nil))) follows Try.func31 (by kernel_rfl) (fun a r h => ⟨fuel, Eq.trans (c := some r) (congrFun (congrFun (tree_Show.o0 (r_tree_Show n) (fuel)) a.1) a.2.1) h⟩)
def s_tree_Show (a : (D0) × ((Option N1) × (Unit))) : Option ((List UInt8) × (Unit)) := r_tree_Show (fuel) a
def F_tree_Show : FSpec cx.toNm := Fr_tree_Show s_tree_Show
theorem ok_tree_Show : FnOk Try.prog F_tree_Show 31 := fun w Z own vs a r h1 h2 h3 h4 => (okr_tree_Show (fuel)) w Z own vs a r h1 h2 h3 h4
namespace tree_At
def E : Env cx := { tys := tys, fs := fsOf [] }
abbrev R := Option (((Option N1) × (Bool)) × (Unit))
abbrev C := Exit → ST cx → R
noncomputable def b : Code := bodyC Try.f28
def h : Hint := { vs := [0, 1, 4, 5, 7, 8, 9, 10], nil := [], cuts := [(2, ([0, 8, 9, 10], []), ([0], [])), (5, ([0, 7, 8, 9, 10, 28], []), ([0, 7, 8, 9, 10], [])), (6, ([0, 7, 8, 9, 10], []), ([0, 8, 9, 10], [])), (7, ([0, 8, 9, 10], []), ([0, 8, 9, 10], [])), (8, ([0], []), ([0], []))], ret := ([4, 5], []), ords := [] }
def K0 : C := fin (S := cx) E Try.f28.results.toList (.pair (.ptr 1) .bool) .ro [] []
def c0 : Code := subC b [1]
def K1 (k : Nat) : C := outD h c0 K0
def c1 : Code := subC b [1, 1]
def K3 (k : Nat) : C := outD h c1 (K1 k)
def K4 (k : Nat) : C := seqC E h k c1 (K1 k)
def c2 : Code := subC b [1, 0, 1]
def K5 (k : Nat) : C := outD h c2 (K4 k)
def K7 (k : Nat) : C := blockK 0 (K5 k)
def c3 : Code := subC b [1, 0, 1, 0, 0]
def K8 (k n1 : Nat) : C := loopD E h k c3 (K7 k) n1
def c4 : Code := subC b [1, 0, 1, 0, 0, 1]
def K9 (k n1 : Nat) : C := outD h c4 (K8 k n1)
def c5 : Code := subC b [1, 0, 1, 0, 0, 1, 1]
def K11 (k n1 : Nat) : C := outD h c5 (K9 k n1)
def c6 : Code := subC b [1, 0, 1, 0, 0, 1, 1, 1]
def K13 (k n1 : Nat) : C := outD h c6 (K11 k n1)
def K14 (k n1 : Nat) : C := seqC E h k c6 (K11 k n1)
def K15 (k n1 : Nat) : C := blockK 1 (K14 k n1)
def c7 : Code := subC b [1, 0, 1, 0, 0, 1, 1, 0, 0, 1]
def K16 (k n1 : Nat) : C := outD h c7 (K15 k n1)
def c8 : Code := subC b [1, 0, 1, 0, 0, 1, 1, 0, 0, 1, 1]
def K18 (k n1 : Nat) : C := outD h c8 (K16 k n1)
def K19 (k n1 : Nat) : C := seqC E h k c8 (K16 k n1)
def c9 : Code := subC b [1, 0, 1, 0, 0, 1, 1, 0, 0, 1, 0, 1]
def K20 (k n1 : Nat) : C := outD h c9 (K19 k n1)
abbrev T5 := (Option N1) → (List (Int)) → Int → Int → R
abbrev T4 := (Option N1) → Int → (List (Int)) → Int → Int → R
abbrev T2 := (Option N1) → Int → (List (Int)) → Int → Int → Bool → R
abbrev T3 := (Option N1) → R
abbrev T1 := (Option N1) → (List (Int)) → Int → Int → R
abbrev T0 := (Option N1) → (List (Int)) → R
abbrev s5 := fun x0 x8 x9 x10 => ({ vars := [(0, .v (.ptr 1) .ro x0), (8, .v (.slice 3 (.int .i64)) .ro x8), (9, .v (.int .i64) .ro x9), (10, .v (.int .i64) .ro x10)], scr := [], mems := [] } : ST cx)
def u5 (k n1 : Nat) : T5 := fun x0 x8 x9 x10 => uK (run E h k c6) (s5 x0 x8 x9 x10) (K13 k n1)
abbrev l5 (k n1 : Nat) : T5 := fun x0 x8 x9 x10 => cutK (run E h k c6) (s5 x0 x8 x9 x10) (K13 k n1)
abbrev s4 := fun x0 x7 x8 x9 x10 => ({ vars := [(0, .v (.ptr 1) .ro x0), (7, .v (.int .i64) .ro x7), (8, .v (.slice 3 (.int .i64)) .ro x8), (9, .v (.int .i64) .ro x9), (10, .v (.int .i64) .ro x10)], scr := [], mems := [] } : ST cx)
def u4 (k n1 : Nat) : T4 := fun x0 x7 x8 x9 x10 => uK (run E h k c8) (s4 x0 x7 x8 x9 x10) (K18 k n1)
abbrev l4 (k n1 : Nat) : T4 := fun x0 x7 x8 x9 x10 => cutK (run E h k c8) (s4 x0 x7 x8 x9 x10) (K18 k n1)
abbrev s2 := fun x0 x7 x8 x9 x10 x28 => ({ vars := [(0, .v (.ptr 1) .ro x0), (7, .v (.int .i64) .ro x7), (8, .v (.slice 3 (.int .i64)) .ro x8), (9, .v (.int .i64) .ro x9), (10, .v (.int .i64) .ro x10), (28, .v .bool .ro x28)], scr := [], mems := [] } : ST cx)
def u2 (k n1 : Nat) : T2 := fun x0 x7 x8 x9 x10 x28 => uK (run E h k c9) (s2 x0 x7 x8 x9 x10 x28) (K20 k n1)
abbrev l2 (k n1 : Nat) : T2 := fun x0 x7 x8 x9 x10 x28 => cutK (run E h k c9) (s2 x0 x7 x8 x9 x10 x28) (K20 k n1)
abbrev s3 := fun x0 => ({ vars := [(0, .v (.ptr 1) .ro x0)], scr := [], mems := [] } : ST cx)
def u3 (k : Nat) : T3 := fun x0 => uK (run E h k c1) (s3 x0) (K3 k)
abbrev l3 (k : Nat) : T3 := fun x0 => cutK (run E h k c1) (s3 x0) (K3 k)
abbrev s1 := fun x0 x8 x9 x10 => ({ vars := [(0, .v (.ptr 1) .ro x0), (8, .v (.slice 3 (.int .i64)) .ro x8), (9, .v (.int .i64) .ro x9), (10, .v (.int .i64) .ro x10)], scr := [], mems := [] } : ST cx)
def u1 (k n1 : Nat) : T1 := fun x0 x8 x9 x10 => uK (loopL E h k c3 (K7 k) n1) (s1 x0 x8 x9 x10) ()
abbrev l1 (k n1 : Nat) : T1 := fun x0 x8 x9 x10 => cutK (loopL E h k c3 (K7 k) n1) (s1 x0 x8 x9 x10) ()
def u0 (k : Nat) : T0 := fun x0 x1 => runOf (S := cx) E h k Try.f28 [.val (.ptr 1), .val (.slice 3 (.int .i64))] (.pair (.ptr 1) .bool) .ro (x0, x1, ())
def t5 (f1 : T1) : T5 := fun x0 x8 x9 x10 => 
  (f1 x0 x8 x9 (w64 (x10 + (1 : Int))))
theorem e5 (k n1 : Nat) : u5 k n1 = t5 (l1 k n1) := by kernel_rfl
theorem g5 (k n1 : Nat) : l5 k n1 = u5 k n1 := funext fun _ => funext fun _ => funext fun _ => funext fun _ => cut_u _ _ _
theorem d5 {x1 y1 : T1} (h1 : x1 = y1) : t5 x1 = t5 y1 := by subst h1; rfl
def p5 (k : Nat) (a1 : T1) : T5 := t5 a1
theorem o5 (k n1 : Nat) (a1 : T1) (h1 : l1 k n1 = a1) : l5 k n1 = p5 k a1 := (Eq.trans (b := u5 k n1) (g5 k n1) (Eq.trans (b := t5 (l1 k n1)) (e5 k n1) (Eq.trans (b := t5 a1) (d5 h1) (by kernel_rfl))))
def t4 (f5 : T5) : T4 := fun x0 x7 x8 x9 x10 => 
  (bindR x0 fun z3 => (withinR x7 (List.length (out1 z3).2.2.2.1) fun q4 => (f5 (List.getD (out1 z3).2.2.2.1 q4 none) x8 x9 x10)))
theorem e4 (k n1 : Nat) : u4 k n1 = t4 (l5 k n1) := by kernel_rfl
theorem g4 (k n1 : Nat) : l4 k n1 = u4 k n1 := funext fun _ => funext fun _ => funext fun _ => funext fun _ => funext fun _ => cut_u _ _ _
theorem d4 {x5 y5 : T5} (h5 : x5 = y5) : t4 x5 = t4 y5 := by subst h5; rfl
def p4 (k : Nat) (a1 : T1) : T4 := t4 (p5 k a1)
theorem o4 (k n1 : Nat) (a1 : T1) (h1 : l1 k n1 = a1) : l4 k n1 = p4 k a1 := (Eq.trans (b := u4 k n1) (g4 k n1) (Eq.trans (b := t4 (l5 k n1)) (e4 k n1) (Eq.trans (b := t4 (p5 k a1)) (d4 (o5 k n1 a1 h1)) (by kernel_rfl))))
def t2 (f4 : T4) : T2 := fun x0 x7 x8 x9 x10 x28 => 
  (iteB x28 (some ((none, false), ())) (f4 x0 x7 x8 x9 x10))
theorem e2 (k n1 : Nat) : u2 k n1 = t2 (l4 k n1) := by kernel_rfl
theorem g2 (k n1 : Nat) : l2 k n1 = u2 k n1 := funext fun _ => funext fun _ => funext fun _ => funext fun _ => funext fun _ => funext fun _ => cut_u _ _ _
theorem d2 {x4 y4 : T4} (h4 : x4 = y4) : t2 x4 = t2 y4 := by subst h4; rfl
def p2 (k : Nat) (a1 : T1) : T2 := t2 (p4 k a1)
theorem o2 (k n1 : Nat) (a1 : T1) (h1 : l1 k n1 = a1) : l2 k n1 = p2 k a1 := (Eq.trans (b := u2 k n1) (g2 k n1) (Eq.trans (b := t2 (l4 k n1)) (e2 k n1) (Eq.trans (b := t2 (p4 k a1)) (d2 (o4 k n1 a1 h1)) (by kernel_rfl))))
def t3 : T3 := fun x0 => 
  (some ((x0, (!(Option.isNone x0))), ()))
theorem e3 (k : Nat) : u3 k = t3 := by kernel_rfl
theorem g3 (k : Nat) : l3 k = u3 k := funext fun _ => cut_u _ _ _
def p3 (k : Nat) : T3 := t3
theorem o3 (k : Nat) : l3 k = p3 k := (Eq.trans (b := u3 k) (g3 k) (Eq.trans (b := t3) (e3 k) (by kernel_rfl)))
def t1 (f2 : T2) (f3 : T3) : T1 := fun x0 x8 x9 x10 => 
  (iteB (decide (x10 < x9)) (withinR x10 (List.length x8) fun q1 => (iteB (Option.isNone x0) (f2 x0 (List.getD x8 q1 (0 : Int)) x8 x9 x10 true) (iteB (decide ((List.getD x8 q1 (0 : Int)) < (0 : Int))) (f2 x0 (List.getD x8 q1 (0 : Int)) x8 x9 x10 true) (bindR x0 fun z2 => (f2 x0 (List.getD x8 q1 (0 : Int)) x8 x9 x10 (decide (((List.length (out1 z2).2.2.2.1 : Nat) : Int) ≤ (List.getD x8 q1 (0 : Int))))))))) (f3 x0))
theorem e1 (k n1 : Nat) : u1 k (n1 + 1) = t1 (l2 k n1) (l3 k) := by kernel_rfl
theorem g1 (k n1 : Nat) : l1 k (n1 + 1) = u1 k (n1 + 1) := funext fun _ => funext fun _ => funext fun _ => funext fun _ => cut_u _ _ _
theorem d1 {x2 y2 : T2} {x3 y3 : T3} (h2 : x2 = y2) (h3 : x3 = y3) : t1 x2 x3 = t1 y2 y3 := by subst h2; subst h3; rfl
def p1 (k : Nat) : Nat → T1
  | 0 => fun _ _ _ _ => none
  | n1 + 1 => t1 (p2 k (p1 k n1)) (p3 k)
theorem o1 (k : Nat) : ∀ n1, l1 k n1 = p1 k n1 := by
  intro n1
  induction n1 with
  | zero => kernel_rfl
  | succ n1 ih => exact (Eq.trans (b := u1 k (n1 + 1)) (g1 k n1) (Eq.trans (b := t1 (l2 k n1) (l3 k)) (e1 k n1) (Eq.trans (b := t1 (p2 k (p1 k n1)) (p3 k)) (d1 (o2 k n1 (p1 k n1) ih) (o3 k)) (by kernel_rfl))))
def t0 (f1 : T1) : T0 := fun x0 x1 => 
  (f1 x0 x1 ((List.length x1 : Nat) : Int) (0 : Int))
theorem e0 (k : Nat) : u0 k = t0 (l1 k k) := by kernel_rfl
theorem d0 {x1 y1 : T1} (h1 : x1 = y1) : t0 x1 = t0 y1 := by subst h1; rfl
def p0 (k : Nat) : T0 := t0 (p1 k k)
theorem o0 (k : Nat) : u0 k = p0 k := (Eq.trans (b := t0 (l1 k k)) (e0 k) (Eq.trans (b := t0 (p1 k k)) (d0 (o1 k k)) (by kernel_rfl)))
end tree_At
def s_tree_At (a : (Option N1) × ((List (Int)) × (Unit))) : Option (((Option N1) × (Bool)) × (Unit)) := tree_At.p0 (fuel) a.1 a.2.1
def F_tree_At : FSpec cx.toNm := { ps := [.val (.ptr 1), .val (.slice 3 (.int .i64))], nres := 2, rt := (.pair (.ptr 1) .bool), rm := .ro, f := s_tree_At }
theorem w_tree_At (a : (Option N1) × ((List (Int)) × (Unit))) : runOf (S := cx) tree_At.E tree_At.h (fuel) Try.f28 F_tree_At.ps F_tree_At.rt F_tree_At.rm a = F_tree_At.f a := Eq.trans (b := tree_At.u0 (fuel) a.1 a.2.1) (by kernel_rfl) (Eq.trans (b := tree_At.p0 (fuel) a.1 a.2.1) (congrFun (congrFun (tree_At.o0 (fuel)) a.1) a.2.1) (by kernel_rfl))
theorem ok_tree_At : FnOk Try.prog F_tree_At 28 := fn_of (hn := tree_At.h) (E := tree_At.E) cxOk (tysT _ _) fs_nil follows Try.func28 (by kernel_rfl) (fun a r h => ⟨fuel, Eq.trans (w_tree_At a) h⟩)
namespace slices_Clonex
def E : Env cx := { tys := tys, fs := fsOf [] }
abbrev R := Option ((List (Option N1)) × (Unit))
abbrev C := Exit → ST cx → R
noncomputable def b : Code := bodyC Try.f39
def h : Hint := { vs := [0, 2], nil := [(5, (.own .ro))], cuts := [], ret := ([2], []), ords := [] }
abbrev T0 := (List (Option N1)) → R
def u0 (k : Nat) : T0 := fun x0 => runOf (S := cx) E h k Try.f39 [.val (.slice 35 (.ptr 1))] (.slice 35 (.ptr 1)) .ro (x0, ())
def t0 : T0 := fun x0 => 
  (nilR (List.isEmpty x0) (some (([] : List (Option N1)), ())) (mustR (room ([] : List (Option N1)) x0) (some ((([] : List (Option N1)) ++ x0), ()))))
theorem e0 (k : Nat) : u0 k = t0 := by kernel_rfl
def p0 (k : Nat) : T0 := t0
theorem o0 (k : Nat) : u0 k = p0 k := (Eq.trans (b := t0) (e0 k) (by kernel_rfl))
end slices_Clonex
def s_slices_Clonex (a : (List (Option N1)) × (Unit)) : Option ((List (Option N1)) × (Unit)) := slices_Clonex.p0 (fuel) a.1
def F_slices_Clonex : FSpec cx.toNm := { ps := [.val (.slice 35 (.ptr 1))], nres := 1, rt := (.slice 35 (.ptr 1)), rm := .ro, f := s_slices_Clonex }
theorem w_slices_Clonex (a : (List (Option N1)) × (Unit)) : runOf (S := cx) slices_Clonex.E slices_Clonex.h (fuel) Try.f39 F_slices_Clonex.ps F_slices_Clonex.rt F_slices_Clonex.rm a = F_slices_Clonex.f a := Eq.trans (b := slices_Clonex.u0 (fuel) a.1) (by kernel_rfl) (Eq.trans (b := slices_Clonex.p0 (fuel) a.1) (congrFun (slices_Clonex.o0 (fuel)) a.1) (by kernel_rfl))
theorem ok_slices_Clonex : FnOk Try.prog F_slices_Clonex 39 := fn_of (hn := slices_Clonex.h) (E := slices_Clonex.E) cxOk (tysT _ _) fs_nil follows Try.func39 (by kernel_rfl) (fun a r h => ⟨fuel, Eq.trans (w_slices_Clonex a) h⟩)
namespace tree_Other_1
def E : Env cx := { tys := tys, fs := fsOf [(19, F_tree_Right)] }
abbrev R := Option ((Bool) × (Unit))
abbrev C := Exit → ST cx → R
noncomputable def b : Code := bodyC Try.f38
def h : Hint := { vs := [0, 1, 3], nil := [], cuts := [], ret := ([3], []), ords := [] }
abbrev T0 := (Option N1) → D0 → R
def u0 (k : Nat) : T0 := fun x0 x1 => runOf (S := cx) E h k Try.f38 [.val (.ptr 1), .val (.box ty0)] .bool .ro (x0, x1, ())
def t0 : T0 := fun x0 x1 => 
  (bindR (s_tree_Right (x1, (x0, ()))) fun r1 => (some ((notB r1.1), ())))
theorem e0 (k : Nat) : u0 k = t0 := by kernel_rfl
def p0 (k : Nat) : T0 := t0
theorem o0 (k : Nat) : u0 k = p0 k := (Eq.trans (b := t0) (e0 k) (by kernel_rfl))
end tree_Other_1
def s_tree_Other_1 (a : (Option N1) × ((D0) × (Unit))) : Option ((Bool) × (Unit)) := tree_Other_1.p0 (fuel) a.1 a.2.1
def F_tree_Other_1 : FSpec cx.toNm := { ps := [.val (.ptr 1), .val (.box ty0)], nres := 1, rt := .bool, rm := .ro, f := s_tree_Other_1 }
theorem w_tree_Other_1 (a : (Option N1) × ((D0) × (Unit))) : runOf (S := cx) tree_Other_1.E tree_Other_1.h (fuel) Try.f38 F_tree_Other_1.ps F_tree_Other_1.rt F_tree_Other_1.rm a = F_tree_Other_1.f a := Eq.trans (b := tree_Other_1.u0 (fuel) a.1 a.2.1) (by kernel_rfl) (Eq.trans (b := tree_Other_1.p0 (fuel) a.1 a.2.1) (congrFun (congrFun (tree_Other_1.o0 (fuel)) a.1) a.2.1) (by kernel_rfl))
theorem ok_tree_Other_1 : FnOk Try.prog F_tree_Other_1 38 := fn_of (hn := tree_Other_1.h) (E := tree_Other_1.E) cxOk (tysT _ _) (fs_cons ok_tree_Right fs_nil) follows Try.func38 (by kernel_rfl) (fun a r h => ⟨fuel, Eq.trans (w_tree_Other_1 a) h⟩)
namespace slices_IndexFuncxxx
def E : Env cx := { tys := tys, fs := fsOf [(38, F_tree_Other_1)] }
abbrev R := Option ((Int) × (Unit))
abbrev C := Exit → ST cx → R
noncomputable def b : Code := bodyC Try.f65
def h : Hint := { vs := [0, 1, 4, 5, 7, 8], nil := [], cuts := [(2, ([0, 1, 7, 8], []), ([], [])), (7, ([], []), ([], []))], ret := ([4], []), ords := [] }
def K0 : C := fin (S := cx) E Try.f65.results.toList (.int .i64) .ro [] []
def c0 : Code := subC b [1]
def K1 (k : Nat) : C := outD h c0 K0
def c1 : Code := subC b [1, 1]
def K3 (k : Nat) : C := outD h c1 (K1 k)
def K4 (k : Nat) : C := seqC E h k c1 (K1 k)
def c2 : Code := subC b [1, 0, 1]
def K5 (k : Nat) : C := outD h c2 (K4 k)
def K7 (k : Nat) : C := blockK 0 (K5 k)
def c3 : Code := subC b [1, 0, 1, 0, 0]
abbrev T2 := R
abbrev T1 := (List (Option N1)) → ((D0) × (Unit)) → Int → Int → R
abbrev T0 := (List (Option N1)) → ((D0) × (Unit)) → R
abbrev s2 : ST cx := ({ vars := [], scr := [], mems := [] } : ST cx)
def u2 (k : Nat) : T2 := uK (run E h k c1) s2 (K3 k)
abbrev l2 (k : Nat) : T2 := cutK (run E h k c1) s2 (K3 k)
abbrev s1 := fun x0 x1 x7 x8 => ({ vars := [(0, .v (.slice 35 (.ptr 1)) .ro x0), (1, .v (.clo 38 (.pair (.box ty0) .unit)) .ro x1), (7, .v (.int .i64) .ro x7), (8, .v (.int .i64) .ro x8)], scr := [], mems := [] } : ST cx)
def u1 (k n1 : Nat) : T1 := fun x0 x1 x7 x8 => uK (loopL E h k c3 (K7 k) n1) (s1 x0 x1 x7 x8) ()
abbrev l1 (k n1 : Nat) : T1 := fun x0 x1 x7 x8 => cutK (loopL E h k c3 (K7 k) n1) (s1 x0 x1 x7 x8) ()
def u0 (k : Nat) : T0 := fun x0 x1 => runOf (S := cx) E h k Try.f65 [.val (.slice 35 (.ptr 1)), .val (.clo 38 (.pair (.box ty0) .unit))] (.int .i64) .ro (x0, x1, ())
def t2 : T2 := 
  (some ((-1 : Int), ()))
theorem e2 (k : Nat) : u2 k = t2 := by kernel_rfl
theorem g2 (k : Nat) : l2 k = u2 k := cut_u _ _ _
def p2 (k : Nat) : T2 := t2
theorem o2 (k : Nat) : l2 k = p2 k := (Eq.trans (b := u2 k) (g2 k) (Eq.trans (b := t2) (e2 k) (by kernel_rfl)))
def t1 (f1 : T1) (f2 : T2) : T1 := fun x0 x1 x7 x8 => 
  (iteB (decide (x8 < x7)) (withinR x8 (List.length x0) fun q1 => (bindR (s_tree_Other_1 ((List.getD x0 q1 none), (x1.1, ()))) fun r2 => (iteB r2.1 (some (x8, ())) (f1 x0 x1 x7 (w64 (x8 + (1 : Int))))))) f2)
theorem e1 (k n1 : Nat) : u1 k (n1 + 1) = t1 (l1 k n1) (l2 k) := by kernel_rfl
theorem g1 (k n1 : Nat) : l1 k (n1 + 1) = u1 k (n1 + 1) := funext fun _ => funext fun _ => funext fun _ => funext fun _ => cut_u _ _ _
theorem d1 {x1 y1 : T1} {x2 y2 : T2} (h1 : x1 = y1) (h2 : x2 = y2) : t1 x1 x2 = t1 y1 y2 := by subst h1; subst h2; rfl
def p1 (k : Nat) : Nat → T1
  | 0 => fun _ _ _ _ => none
  | n1 + 1 => t1 (p1 k n1) (p2 k)
theorem o1 (k : Nat) : ∀ n1, l1 k n1 = p1 k n1 := by
  intro n1
  induction n1 with
  | zero => kernel_rfl
  | succ n1 ih => exact (Eq.trans (b := u1 k (n1 + 1)) (g1 k n1) (Eq.trans (b := t1 (l1 k n1) (l2 k)) (e1 k n1) (Eq.trans (b := t1 (p1 k n1) (p2 k)) (d1 ih (o2 k)) (by kernel_rfl))))
def t0 (f1 : T1) : T0 := fun x0 x1 => 
  (f1 x0 x1 ((List.length x0 : Nat) : Int) (0 : Int))
theorem e0 (k : Nat) : u0 k = t0 (l1 k k) := by kernel_rfl
theorem d0 {x1 y1 : T1} (h1 : x1 = y1) : t0 x1 = t0 y1 := by subst h1; rfl
def p0 (k : Nat) : T0 := t0 (p1 k k)
theorem o0 (k : Nat) : u0 k = p0 k := (Eq.trans (b := t0 (l1 k k)) (e0 k) (Eq.trans (b := t0 (p1 k k)) (d0 (o1 k k)) (by kernel_rfl)))
end slices_IndexFuncxxx
def s_slices_IndexFuncxxx (a : (List (Option N1)) × (((D0) × (Unit)) × (Unit))) : Option ((Int) × (Unit)) := slices_IndexFuncxxx.p0 (fuel) a.1 a.2.1
def F_slices_IndexFuncxxx : FSpec cx.toNm := { ps := [.val (.slice 35 (.ptr 1)), .val (.clo 38 (.pair (.box ty0) .unit))], nres := 1, rt := (.int .i64), rm := .ro, f := s_slices_IndexFuncxxx }
theorem w_slices_IndexFuncxxx (a : (List (Option N1)) × (((D0) × (Unit)) × (Unit))) : runOf (S := cx) slices_IndexFuncxxx.E slices_IndexFuncxxx.h (fuel) Try.f65 F_slices_IndexFuncxxx.ps F_slices_IndexFuncxxx.rt F_slices_IndexFuncxxx.rm a = F_slices_IndexFuncxxx.f a := Eq.trans (b := slices_IndexFuncxxx.u0 (fuel) a.1 a.2.1) (by kernel_rfl) (Eq.trans (b := slices_IndexFuncxxx.p0 (fuel) a.1 a.2.1) (congrFun (congrFun (slices_IndexFuncxxx.o0 (fuel)) a.1) a.2.1) (by kernel_rfl))
theorem ok_slices_IndexFuncxxx : FnOk Try.prog F_slices_IndexFuncxxx 65 := fn_of (hn := slices_IndexFuncxxx.h) (E := slices_IndexFuncxxx.E) cxOk (tysT _ _) (fs_cons ok_tree_Other_1 fs_nil) follows Try.func65 (by kernel_rfl) (fun a r h => ⟨fuel, Eq.trans (w_slices_IndexFuncxxx a) h⟩)
namespace slices_ContainsFuncxxx
def E : Env cx := { tys := tys, fs := fsOf [(65, F_slices_IndexFuncxxx)] }
abbrev R := Option ((Bool) × (Unit))
abbrev C := Exit → ST cx → R
noncomputable def b : Code := bodyC Try.f37
def h : Hint := { vs := [0, 1, 4], nil := [], cuts := [], ret := ([4], []), ords := [] }
abbrev T0 := (List (Option N1)) → ((D0) × (Unit)) → R
def u0 (k : Nat) : T0 := fun x0 x1 => runOf (S := cx) E h k Try.f37 [.val (.slice 35 (.ptr 1)), .val (.clo 38 (.pair (.box ty0) .unit))] .bool .ro (x0, x1, ())
def t0 : T0 := fun x0 x1 => 
  (bindR (s_slices_IndexFuncxxx (x0, (x1, ()))) fun r1 => (some ((decide ((0 : Int) ≤ r1.1)), ())))
theorem e0 (k : Nat) : u0 k = t0 := by kernel_rfl
def p0 (k : Nat) : T0 := t0
theorem o0 (k : Nat) : u0 k = p0 k := (Eq.trans (b := t0) (e0 k) (by kernel_rfl))
end slices_ContainsFuncxxx
def s_slices_ContainsFuncxxx (a : (List (Option N1)) × (((D0) × (Unit)) × (Unit))) : Option ((Bool) × (Unit)) := slices_ContainsFuncxxx.p0 (fuel) a.1 a.2.1
def F_slices_ContainsFuncxxx : FSpec cx.toNm := { ps := [.val (.slice 35 (.ptr 1)), .val (.clo 38 (.pair (.box ty0) .unit))], nres := 1, rt := .bool, rm := .ro, f := s_slices_ContainsFuncxxx }
theorem w_slices_ContainsFuncxxx (a : (List (Option N1)) × (((D0) × (Unit)) × (Unit))) : runOf (S := cx) slices_ContainsFuncxxx.E slices_ContainsFuncxxx.h (fuel) Try.f37 F_slices_ContainsFuncxxx.ps F_slices_ContainsFuncxxx.rt F_slices_ContainsFuncxxx.rm a = F_slices_ContainsFuncxxx.f a := Eq.trans (b := slices_ContainsFuncxxx.u0 (fuel) a.1 a.2.1) (by kernel_rfl) (Eq.trans (b := slices_ContainsFuncxxx.p0 (fuel) a.1 a.2.1) (congrFun (congrFun (slices_ContainsFuncxxx.o0 (fuel)) a.1) a.2.1) (by kernel_rfl))
theorem ok_slices_ContainsFuncxxx : FnOk Try.prog F_slices_ContainsFuncxxx 37 := fn_of (hn := slices_ContainsFuncxxx.h) (E := slices_ContainsFuncxxx.E) cxOk (tysT _ _) (fs_cons ok_slices_IndexFuncxxx fs_nil) follows Try.func37 (by kernel_rfl) (fun a r h => ⟨fuel, Eq.trans (w_slices_ContainsFuncxxx a) h⟩)
namespace tree_Other
def E : Env cx := { tys := tys, fs := fsOf [(36, F_symbols_Right), (37, F_slices_ContainsFuncxxx), (39, F_slices_Clonex), (40, F_tree_toks), (41, F_tree_fits)], wr := true }
abbrev R := Option (((Option N1) × (Int)) × (Unit))
abbrev C := Exit → ST cx → R
noncomputable def b : Code := bodyC Try.f15
def h : Hint := { vs := [0, 1, 2, 3, 6, 7, 8], nil := [], cuts := [(2, ([1, 2, 3, 27], [3]), ([1, 2, 3], [3])), (3, ([1, 2, 3], [3]), ([1, 2, 3], [3]))], ret := ([6, 7], [3, 40]), ords := [(3, [0, 1, 2, 3, 4, 5, 6, 7, 9, 8, 10, 11, 12, 13])], fns := [(25, [true])] }
def K0 : C := fin (S := cx) E Try.f15.results.toList (.pair (.ptr 1) (.int .i64)) .ro [] []
def c0 : Code := subC b [1]
def K1 (k : Nat) : C := outD h c0 K0
def c1 : Code := subC b [1, 1]
def K3 (k : Nat) : C := outD h c1 (K1 k)
def K4 (k : Nat) : C := seqC E h k c1 (K1 k)
def c2 : Code := subC b [1, 0, 1]
def K5 (k : Nat) : C := outD h c2 (K4 k)
abbrev T2 := Int → (List (Option N1)) → D0 → R
abbrev T1 := Int → (List (Option N1)) → Bool → D0 → R
abbrev T0 := D0 → Int → (List (Option N1)) → R
abbrev s2 := fun x1 x2 m3 => ({ vars := [(1, .v (.int .i64) .ro x1), (2, .v (.slice 35 (.ptr 1)) .ro x2), (3, .addr (.mem 3) [])], scr := [], mems := [(3, ⟨ty0, .ro, m3⟩)] } : ST cx)
def u2 (k : Nat) : T2 := fun x1 x2 m3 => uK (run E h k c1) (s2 x1 x2 m3) (K3 k)
abbrev l2 (k : Nat) : T2 := fun x1 x2 m3 => cutK (run E h k c1) (s2 x1 x2 m3) (K3 k)
abbrev s1 := fun x1 x2 x27 m3 => ({ vars := [(1, .v (.int .i64) .ro x1), (2, .v (.slice 35 (.ptr 1)) .ro x2), (3, .addr (.mem 3) []), (27, .v .bool .ro x27)], scr := [], mems := [(3, ⟨ty0, .ro, m3⟩)] } : ST cx)
def u1 (k : Nat) : T1 := fun x1 x2 x27 m3 => uK (run E h k c2) (s1 x1 x2 x27 m3) (K5 k)
abbrev l1 (k : Nat) : T1 := fun x1 x2 x27 m3 => cutK (run E h k c2) (s1 x1 x2 x27 m3) (K5 k)
def u0 (k : Nat) : T0 := fun x0 x1 x2 => runOf (S := cx) E h k Try.f15 [.val ty0, .val (.int .i64), .val (.slice 35 (.ptr 1))] (.pair (.ptr 1) (.int .i64)) .ro (x0, x1, x2, ())
def t2 : T2 := fun x1 x2 m3 => 
  (withinR x1 (List.length m3.2.2.2.1) fun q3 => (bindR (s_slices_Clonex (x2, ())) fun r4 => (bindR (s_tree_toks (x2, ())) fun r5 => (bindR (s_tree_fits (m3, ((some (pk1 ((List.getD m3.2.2.2.1 q3 ((0 : Int), ([] : List (Int)))).1, (x1, (([] : List UInt8), (r4.1, (r5.1, (0 : Int)))))))), ()))) fun r6 => (iteB (notB r6.1) (some ((none, (1 : Int)), ())) (some (((some (pk1 ((List.getD m3.2.2.2.1 q3 ((0 : Int), ([] : List (Int)))).1, (x1, (([] : List UInt8), (r4.1, (r5.1, (0 : Int)))))))), (0 : Int)), ())))))))
theorem e2 (k : Nat) : u2 k = t2 := by kernel_rfl
theorem g2 (k : Nat) : l2 k = u2 k := funext fun _ => funext fun _ => funext fun _ => cut_u _ _ _
def p2 (k : Nat) : T2 := t2
theorem o2 (k : Nat) : l2 k = p2 k := (Eq.trans (b := u2 k) (g2 k) (Eq.trans (b := t2) (e2 k) (by kernel_rfl)))
def t1 (f2 : T2) : T1 := fun x1 x2 x27 m3 => 
  (iteB x27 (some ((none, (1 : Int)), ())) (f2 x1 x2 m3))
theorem e1 (k : Nat) : u1 k = t1 (l2 k) := by kernel_rfl
theorem g1 (k : Nat) : l1 k = u1 k := funext fun _ => funext fun _ => funext fun _ => funext fun _ => cut_u _ _ _
theorem d1 {x2 y2 : T2} (h2 : x2 = y2) : t1 x2 = t1 y2 := by subst h2; rfl
def p1 (k : Nat) : T1 := t1 (p2 k)
theorem o1 (k : Nat) : l1 k = p1 k := (Eq.trans (b := u1 k) (g1 k) (Eq.trans (b := t1 (l2 k)) (e1 k) (Eq.trans (b := t1 (p2 k)) (d1 (o2 k)) (by kernel_rfl))))
def t0 (f1 : T1) : T0 := fun x0 x1 x2 => 
  (bindR (s_symbols_Right (x0, ())) fun r1 => (iteB (notB r1.1) (f1 x1 x2 true x0) (iteB (decide (x1 < (0 : Int))) (f1 x1 x2 true x0) (iteB (decide (((List.length x0.2.2.2.1 : Nat) : Int) ≤ x1)) (f1 x1 x2 true x0) (bindR (s_slices_ContainsFuncxxx (x2, ((x0, ()), ()))) fun r2 => (f1 x1 x2 r2.1 x0))))))
theorem e0 (k : Nat) : u0 k = t0 (l1 k) := by kernel_rfl
theorem d0 {x1 y1 : T1} (h1 : x1 = y1) : t0 x1 = t0 y1 := by subst h1; rfl
def p0 (k : Nat) : T0 := t0 (p1 k)
theorem o0 (k : Nat) : u0 k = p0 k := (Eq.trans (b := t0 (l1 k)) (e0 k) (Eq.trans (b := t0 (p1 k)) (d0 (o1 k)) (by kernel_rfl)))
end tree_Other
def s_tree_Other (a : (D0) × ((Int) × ((List (Option N1)) × (Unit)))) : Option (((Option N1) × (Int)) × (Unit)) := tree_Other.p0 (fuel) a.1 a.2.1 a.2.2.1
def F_tree_Other : FSpec cx.toNm := { ps := [.val ty0, .val (.int .i64), .val (.slice 35 (.ptr 1))], nres := 2, rt := (.pair (.ptr 1) (.int .i64)), rm := .ro, f := s_tree_Other }
theorem w_tree_Other (a : (D0) × ((Int) × ((List (Option N1)) × (Unit)))) : runOf (S := cx) tree_Other.E tree_Other.h (fuel) Try.f15 F_tree_Other.ps F_tree_Other.rt F_tree_Other.rm a = F_tree_Other.f a := Eq.trans (b := tree_Other.u0 (fuel) a.1 a.2.1 a.2.2.1) (by kernel_rfl) (Eq.trans (b := tree_Other.p0 (fuel) a.1 a.2.1 a.2.2.1) (congrFun (congrFun (congrFun (tree_Other.o0 (fuel)) a.1) a.2.1) a.2.2.1) (by kernel_rfl))
theorem ok_tree_Other : FnOk Try.prog F_tree_Other 15 := fn_of (hn := tree_Other.h) (E := tree_Other.E) cxOk (tysT _ _) (fs_cons ok_symbols_Right (fs_cons ok_slices_ContainsFuncxxx (fs_cons ok_slices_Clonex (fs_cons ok_tree_toks (fs_cons ok_tree_fits fs_nil))))) follows Try.func15 (by kernel_rfl) (fun a r h => ⟨fuel, Eq.trans (w_tree_Other a) h⟩)
namespace tree_Token
def E : Env cx := { tys := tys, fs := fsOf [] }
abbrev R := Option ((Option N1) × (Unit))
abbrev C := Exit → ST cx → R
noncomputable def b : Code := bodyC Try.f11
def h : Hint := { vs := [0, 1, 4], nil := [], cuts := [], ret := ([4], [8]), ords := [] }
abbrev T0 := Int → (List UInt8) → R
def u0 (k : Nat) : T0 := fun x0 x1 => runOf (S := cx) E h k Try.f11 [.val (.int .i64), .val .str] (.ptr 1) .ro (x0, x1, ())
def t0 : T0 := fun x0 x1 => 
  (some ((some (pk1 (x0, ((-1 : Int), (x1, (([] : List (Option N1)), ((1 : Int), (0 : Int)))))))), ()))
theorem e0 (k : Nat) : u0 k = t0 := by kernel_rfl
def p0 (k : Nat) : T0 := t0
theorem o0 (k : Nat) : u0 k = p0 k := (Eq.trans (b := t0) (e0 k) (by kernel_rfl))
end tree_Token
def s_tree_Token (a : (Int) × ((List UInt8) × (Unit))) : Option ((Option N1) × (Unit)) := tree_Token.p0 (fuel) a.1 a.2.1
def F_tree_Token : FSpec cx.toNm := { ps := [.val (.int .i64), .val .str], nres := 1, rt := (.ptr 1), rm := .ro, f := s_tree_Token }
theorem w_tree_Token (a : (Int) × ((List UInt8) × (Unit))) : runOf (S := cx) tree_Token.E tree_Token.h (fuel) Try.f11 F_tree_Token.ps F_tree_Token.rt F_tree_Token.rm a = F_tree_Token.f a := Eq.trans (b := tree_Token.u0 (fuel) a.1 a.2.1) (by kernel_rfl) (Eq.trans (b := tree_Token.p0 (fuel) a.1 a.2.1) (congrFun (congrFun (tree_Token.o0 (fuel)) a.1) a.2.1) (by kernel_rfl))
theorem ok_tree_Token : FnOk Try.prog F_tree_Token 11 := fn_of (hn := tree_Token.h) (E := tree_Token.E) cxOk (tysT _ _) fs_nil follows Try.func11 (by kernel_rfl) (fun a r h => ⟨fuel, Eq.trans (w_tree_Token a) h⟩)
namespace law15_small
def E : Env cx := { tys := tys, fs := fsOf [] }
abbrev R := Option ((D0) × (Unit))
abbrev C := Exit → ST cx → R
noncomputable def b : Code := bodyC Try.f30
def h : Hint := { vs := [0], nil := [], cuts := [], ret := ([0], [0]), ords := [] }
abbrev T0 := R
def u0 (k : Nat) : T0 := runOf (S := cx) E h k Try.f30 [] ty0 .ro (())
def t0 : T0 := 
  (some ((([([97] : List UInt8), ([] : List UInt8), ([115] : List UInt8)] : List (List UInt8)), ((1 : Int), ((2 : Int), (([((2 : Int), ([(0 : Int), (2 : Int)] : List (Int))), ((2 : Int), ([(0 : Int)] : List (Int)))] : List ((Int) × (List (Int)))), (([(0 : Int)] : List (Int)), (([(0 : Int)] : List (Int)), (([] : List (List (Int))), (([] : List (List (Int))), ([] : List (List (Int))))))))))), ()))
theorem e0 (k : Nat) : u0 k = t0 := by kernel_rfl
def p0 (k : Nat) : T0 := t0
theorem o0 (k : Nat) : u0 k = p0 k := (Eq.trans (b := t0) (e0 k) (by kernel_rfl))
end law15_small
def s_law15_small (a : Unit) : Option ((D0) × (Unit)) := law15_small.p0 (fuel)
def F_law15_small : FSpec cx.toNm := { ps := [], nres := 1, rt := ty0, rm := .ro, f := s_law15_small }
theorem w_law15_small (a : Unit) : runOf (S := cx) law15_small.E law15_small.h (fuel) Try.f30 F_law15_small.ps F_law15_small.rt F_law15_small.rm a = F_law15_small.f a := Eq.trans (b := law15_small.u0 (fuel)) (by kernel_rfl) (Eq.trans (b := law15_small.p0 (fuel)) (law15_small.o0 (fuel)) (by kernel_rfl))
theorem ok_law15_small : FnOk Try.prog F_law15_small 30 := fn_of (hn := law15_small.h) (E := law15_small.E) cxOk (tysT _ _) fs_nil follows Try.func30 (by kernel_rfl) (fun a r h => ⟨fuel, Eq.trans (w_law15_small a) h⟩)
namespace law15_alive
def E : Env cx := { tys := tys, fs := fsOf [(11, F_tree_Token), (15, F_tree_Other), (19, F_tree_Right), (28, F_tree_At), (30, F_law15_small), (31, F_tree_Show)] }
abbrev R := Option ((Bool) × (Unit))
abbrev C := Exit → ST cx → R
noncomputable def b : Code := bodyC Try.f7
def h : Hint := { vs := [0, 1, 2, 3, 4, 5, 6, 7], nil := [], cuts := [(5, ([1, 4, 37], [1]), ([1, 4], [1])), (6, ([1, 4], [1]), ([1, 4], [1]))], ret := ([0], [1]), ords := [(3, [0, 2, 1, 3, 4, 5, 6, 7, 8, 9])] }
def K0 : C := fin (S := cx) E Try.f7.results.toList .bool .ro [] []
def c0 : Code := subC b [1]
def K1 (k : Nat) : C := outD h c0 K0
def c1 : Code := subC b [1, 1]
def K3 (k : Nat) : C := outD h c1 (K1 k)
def c2 : Code := subC b [1, 1, 1]
def K5 (k : Nat) : C := outD h c2 (K3 k)
def c3 : Code := subC b [1, 1, 1, 1]
def K7 (k : Nat) : C := outD h c3 (K5 k)
def c4 : Code := subC b [1, 1, 1, 1, 1]
def K9 (k : Nat) : C := outD h c4 (K7 k)
def K10 (k : Nat) : C := seqC E h k c4 (K7 k)
def c5 : Code := subC b [1, 1, 1, 1, 0, 1]
def K11 (k : Nat) : C := outD h c5 (K10 k)
abbrev T2 := (Option N1) → D0 → R
abbrev T1 := (Option N1) → Bool → D0 → R
abbrev T0 := R
abbrev s2 := fun x4 m1 => ({ vars := [(1, .addr (.mem 1) []), (4, .v (.ptr 1) .ro x4)], scr := [], mems := [(1, ⟨ty0, .ro, m1⟩)] } : ST cx)
def u2 (k : Nat) : T2 := fun x4 m1 => uK (run E h k c4) (s2 x4 m1) (K9 k)
abbrev l2 (k : Nat) : T2 := fun x4 m1 => cutK (run E h k c4) (s2 x4 m1) (K9 k)
abbrev s1 := fun x4 x37 m1 => ({ vars := [(1, .addr (.mem 1) []), (4, .v (.ptr 1) .ro x4), (37, .v .bool .ro x37)], scr := [], mems := [(1, ⟨ty0, .ro, m1⟩)] } : ST cx)
def u1 (k : Nat) : T1 := fun x4 x37 m1 => uK (run E h k c5) (s1 x4 x37 m1) (K11 k)
abbrev l1 (k : Nat) : T1 := fun x4 x37 m1 => cutK (run E h k c5) (s1 x4 x37 m1) (K11 k)
def u0 (k : Nat) : T0 := runOf (S := cx) E h k Try.f7 [] .bool .ro (())
def t2 : T2 := fun x4 m1 => 
  (bindR (s_tree_At (x4, (([(0 : Int)] : List (Int)), ()))) fun r6 => (bindR x4 fun z7 => (iteB (decide ((out1 z7).2.2.2.2.1 = (2 : Int))) (bindR (s_tree_Show (m1, (x4, ()))) fun r8 => (iteB (decide (r8.1 = ([115, 40, 97, 58, 120, 32, 115, 40, 97, 58, 121, 41, 41] : List UInt8))) (iteB r6.1.2 (iteB (!(Option.isNone r6.1.1)) (bindR r6.1.1 fun z9 => (iteB (decide ((out1 z9).2.2.1 = ([120] : List UInt8))) (bindR (s_tree_Right (m1, (x4, ()))) fun r10 => (some (r10.1, ()))) (some (false, ())))) (some (false, ()))) (some (false, ()))) (some (false, ())))) (some (false, ())))))
theorem e2 (k : Nat) : u2 k = t2 := by kernel_rfl
theorem g2 (k : Nat) : l2 k = u2 k := funext fun _ => funext fun _ => cut_u _ _ _
def p2 (k : Nat) : T2 := t2
theorem o2 (k : Nat) : l2 k = p2 k := (Eq.trans (b := u2 k) (g2 k) (Eq.trans (b := t2) (e2 k) (by kernel_rfl)))
def t1 (f2 : T2) : T1 := fun x4 x37 m1 => 
  (iteB x37 (some (false, ())) (f2 x4 m1))
theorem e1 (k : Nat) : u1 k = t1 (l2 k) := by kernel_rfl
theorem g1 (k : Nat) : l1 k = u1 k := funext fun _ => funext fun _ => funext fun _ => cut_u _ _ _
theorem d1 {x2 y2 : T2} (h2 : x2 = y2) : t1 x2 = t1 y2 := by subst h2; rfl
def p1 (k : Nat) : T1 := t1 (p2 k)
theorem o1 (k : Nat) : l1 k = p1 k := (Eq.trans (b := u1 k) (g1 k) (Eq.trans (b := t1 (l2 k)) (e1 k) (Eq.trans (b := t1 (p2 k)) (d1 (o2 k)) (by kernel_rfl))))
def t0 (f1 : T1) : T0 := 
  (bindR (s_law15_small ()) fun r1 => (bindR (s_tree_Token ((0 : Int), (([121] : List UInt8), ()))) fun r2 => (bindR (s_tree_Other (r1.1, ((1 : Int), (([r2.1] : List (Option N1)), ())))) fun r3 => (bindR (s_tree_Token ((0 : Int), (([120] : List UInt8), ()))) fun r4 => (bindR (s_tree_Other (r1.1, ((0 : Int), (([r4.1, r3.1.1] : List (Option N1)), ())))) fun r5 => (iteB (!decide (r3.1.2 = (0 : Int))) (f1 r5.1.1 true r1.1) (iteB (!decide (r5.1.2 = (0 : Int))) (f1 r5.1.1 true r1.1) (iteB (Option.isNone r3.1.1) (f1 r5.1.1 true r1.1) (f1 r5.1.1 (Option.isNone r5.1.1) r1.1)))))))))
theorem e0 (k : Nat) : u0 k = t0 (l1 k) := by kernel_rfl
theorem d0 {x1 y1 : T1} (h1 : x1 = y1) : t0 x1 = t0 y1 := by subst h1; rfl
def p0 (k : Nat) : T0 := t0 (p1 k)
theorem o0 (k : Nat) : u0 k = p0 k := (Eq.trans (b := t0 (l1 k)) (e0 k) (Eq.trans (b := t0 (p1 k)) (d0 (o1 k)) (by kernel_rfl)))
end law15_alive
def s_law15_alive (a : Unit) : Option ((Bool) × (Unit)) := law15_alive.p0 (fuel)
def F_law15_alive : FSpec cx.toNm := { ps := [], nres := 1, rt := .bool, rm := .ro, f := s_law15_alive }
theorem w_law15_alive (a : Unit) : runOf (S := cx) law15_alive.E law15_alive.h (fuel) Try.f7 F_law15_alive.ps F_law15_alive.rt F_law15_alive.rm a = F_law15_alive.f a := Eq.trans (b := law15_alive.u0 (fuel)) (by kernel_rfl) (Eq.trans (b := law15_alive.p0 (fuel)) (law15_alive.o0 (fuel)) (by kernel_rfl))
theorem ok_law15_alive : FnOk Try.prog F_law15_alive 7 := fn_of (hn := law15_alive.h) (E := law15_alive.E) cxOk (tysT _ _) (fs_cons ok_tree_Token (fs_cons ok_tree_Other (fs_cons ok_tree_Right (fs_cons ok_tree_At (fs_cons ok_law15_small (fs_cons ok_tree_Show fs_nil)))))) follows Try.func7 (by kernel_rfl) (fun a r h => ⟨fuel, Eq.trans (w_law15_alive a) h⟩)
namespace law15_TreeRight
def E : Env cx := { tys := tys, fs := fsOf [(7, F_law15_alive), (9, F_law11_Great), (10, F_law15_Great), (17, F_ref15_Same), (18, F_ref15_Of), (19, F_tree_Right), (20, F_ref15_Right), (21, F_tree_Same)] }
abbrev R := Option ((Bool) × (Unit))
abbrev C := Exit → ST cx → R
noncomputable def b : Code := bodyC Try.f4
def h : Hint := { vs := [0, 1, 2, 3, 4, 5, 6, 7, 8], nil := [], cuts := [(5, ([3, 7, 8, 24], [3]), ([3, 7, 8], [3])), (6, ([3, 7, 8], [3]), ([3, 7, 8], [3]))], ret := ([6], [3, 4, 5]), ords := [(3, [0, 2, 1, 3, 4, 5]), (6, [0, 1, 3, 4, 2, 5, 6, 7, 8, 9, 11, 12, 10, 13, 14, 15, 16, 17, 18, 19, 20, 21])] }
def K0 : C := fin (S := cx) E Try.f4.results.toList .bool .ro [] []
def c0 : Code := subC b [1]
def K1 (k : Nat) : C := outD h c0 K0
def c1 : Code := subC b [1, 1]
def K3 (k : Nat) : C := outD h c1 (K1 k)
def c4 : Code := subC b [1, 1, 1]
def K9 (k : Nat) : C := outD h c4 (K3 k)
def c5 : Code := subC b [1, 1, 1, 1]
def K11 (k : Nat) : C := outD h c5 (K9 k)
def K12 (k : Nat) : C := seqC E h k c5 (K9 k)
def c6 : Code := subC b [1, 1, 1, 0, 1]
def K13 (k : Nat) : C := outD h c6 (K12 k)
abbrev T2 := (Option N1) → (Option N1) → D0 → R
abbrev T1 := (Option N1) → (Option N1) → Bool → D0 → R
abbrev T0 := D0 → D2 → D2 → R
abbrev s2 := fun x7 x8 m3 => ({ vars := [(3, .addr (.mem 3) []), (7, .v (.ptr 1) .ro x7), (8, .v (.ptr 1) .ro x8)], scr := [], mems := [(3, ⟨ty0, .ro, m3⟩)] } : ST cx)
def u2 (k : Nat) : T2 := fun x7 x8 m3 => uK (run E h k c5) (s2 x7 x8 m3) (K11 k)
abbrev l2 (k : Nat) : T2 := fun x7 x8 m3 => cutK (run E h k c5) (s2 x7 x8 m3) (K11 k)
abbrev s1 := fun x7 x8 x24 m3 => ({ vars := [(3, .addr (.mem 3) []), (7, .v (.ptr 1) .ro x7), (8, .v (.ptr 1) .ro x8), (24, .v .bool .ro x24)], scr := [], mems := [(3, ⟨ty0, .ro, m3⟩)] } : ST cx)
def u1 (k : Nat) : T1 := fun x7 x8 x24 m3 => uK (run E h k c6) (s1 x7 x8 x24 m3) (K13 k)
abbrev l1 (k : Nat) : T1 := fun x7 x8 x24 m3 => cutK (run E h k c6) (s1 x7 x8 x24 m3) (K13 k)
def u0 (k : Nat) : T0 := fun x0 x1 x2 => runOf (S := cx) E h k Try.f4 [.val ty0, .val ty2, .val ty2] .bool .ro (x0, x1, x2, ())
def t2 : T2 := fun x7 x8 m3 => 
  (bindR (s_tree_Right (m3, (x7, ()))) fun r7 => (bindR (s_ref15_Right (m3, (x7, ()))) fun r8 => (iteB (r7.1 == r8.1) (bindR (s_tree_Same (x7, (x8, ()))) fun r9 => (bindR (s_ref15_Same (x7, (x8, ()))) fun r10 => (iteB (r9.1 == r10.1) (bindR (s_tree_Same (x7, (x7, ()))) fun r11 => (some (r11.1, ()))) (some (false, ()))))) (some (false, ())))))
theorem e2 (k : Nat) : u2 k = t2 := by kernel_rfl
theorem g2 (k : Nat) : l2 k = u2 k := funext fun _ => funext fun _ => funext fun _ => cut_u _ _ _
def p2 (k : Nat) : T2 := t2
theorem o2 (k : Nat) : l2 k = p2 k := (Eq.trans (b := u2 k) (g2 k) (Eq.trans (b := t2) (e2 k) (by kernel_rfl)))
def t1 (f2 : T2) : T1 := fun x7 x8 x24 m3 => 
  (iteB x24 (some (true, ())) (f2 x7 x8 m3))
theorem e1 (k : Nat) : u1 k = t1 (l2 k) := by kernel_rfl
theorem g1 (k : Nat) : l1 k = u1 k := funext fun _ => funext fun _ => funext fun _ => funext fun _ => cut_u _ _ _
theorem d1 {x2 y2 : T2} (h2 : x2 = y2) : t1 x2 = t1 y2 := by subst h2; rfl
def p1 (k : Nat) : T1 := t1 (p2 k)
theorem o1 (k : Nat) : l1 k = p1 k := (Eq.trans (b := u1 k) (g1 k) (Eq.trans (b := t1 (l2 k)) (e1 k) (Eq.trans (b := t1 (p2 k)) (d1 (o2 k)) (by kernel_rfl))))
def t0 (f1 : T1) : T0 := fun x0 x1 x2 => 
  (bindR (s_law15_alive ()) fun r1 => (iteB (notB r1.1) (some (false, ())) (bindR (s_ref15_Of (x1, ())) fun r2 => (bindR (s_ref15_Of (x2, ())) fun r3 => (bindR (s_law11_Great (x0, ())) fun r4 => (iteB r4.1 (f1 r2.1 r3.1 true x0) (bindR (s_law15_Great (r2.1, ())) fun r5 => (iteB r5.1 (f1 r2.1 r3.1 true x0) (bindR (s_law15_Great (r3.1, ())) fun r6 => (f1 r2.1 r3.1 r6.1 x0))))))))))
theorem e0 (k : Nat) : u0 k = t0 (l1 k) := by kernel_rfl
theorem d0 {x1 y1 : T1} (h1 : x1 = y1) : t0 x1 = t0 y1 := by subst h1; rfl
def p0 (k : Nat) : T0 := t0 (p1 k)
theorem o0 (k : Nat) : u0 k = p0 k := (Eq.trans (b := t0 (l1 k)) (e0 k) (Eq.trans (b := t0 (p1 k)) (d0 (o1 k)) (by kernel_rfl)))
end law15_TreeRight
def s_law15_TreeRight (a : (D0) × ((D2) × ((D2) × (Unit)))) : Option ((Bool) × (Unit)) := law15_TreeRight.p0 (fuel) a.1 a.2.1 a.2.2.1
def F_law15_TreeRight : FSpec cx.toNm := { ps := [.val ty0, .val ty2, .val ty2], nres := 1, rt := .bool, rm := .ro, f := s_law15_TreeRight }
theorem w_law15_TreeRight (a : (D0) × ((D2) × ((D2) × (Unit)))) : runOf (S := cx) law15_TreeRight.E law15_TreeRight.h (fuel) Try.f4 F_law15_TreeRight.ps F_law15_TreeRight.rt F_law15_TreeRight.rm a = F_law15_TreeRight.f a := Eq.trans (b := law15_TreeRight.u0 (fuel) a.1 a.2.1 a.2.2.1) (by kernel_rfl) (Eq.trans (b := law15_TreeRight.p0 (fuel) a.1 a.2.1 a.2.2.1) (congrFun (congrFun (congrFun (law15_TreeRight.o0 (fuel)) a.1) a.2.1) a.2.2.1) (by kernel_rfl))
theorem ok_law15_TreeRight : FnOk Try.prog F_law15_TreeRight 4 := fn_of (hn := law15_TreeRight.h) (E := law15_TreeRight.E) cxOk (tysT _ _) (fs_cons ok_law15_alive (fs_cons ok_law11_Great (fs_cons ok_law15_Great (fs_cons ok_ref15_Same (fs_cons ok_ref15_Of (fs_cons ok_tree_Right (fs_cons ok_ref15_Right (fs_cons ok_tree_Same fs_nil)))))))) follows Try.func4 (by kernel_rfl) (fun a r h => ⟨fuel, Eq.trans (w_law15_TreeRight a) h⟩)
end
end Go.Proofs.Ytdnkjfmneppkoaa.Vm.Tr
