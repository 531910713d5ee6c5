/- What the laws of edits compute, as plain functions; that they do. -/
import Derived.Test.YtdifekkamjoepaaFnsEdit
namespace Go.Proofs.Ytdifekkamjoepaa.Vm.Rp
open Go Go.Proofs.Ytdifekkamjoepaa.Vm Go.Proofs
set_option linter.unusedVariables false
set_option maxRecDepth 100000
noncomputable section
namespace law04_EditBack
noncomputable def E : Env cx := { tys := tys, fs := fsOf [(18, F_law04_Great), (19, F_ref04_Check), (27, F_ref04_Back), (39, F_Text), (40, F_rope_Of), (63, F_law04_alive), (64, F_ref01_Whole), (65, F_edit_Back), (66, F_edit_Apply), (67, F_ref04_Same)] }
abbrev R := Option ((Bool) × (Unit))
abbrev C := Exit → ST cx → R
noncomputable def b : Code := bodyC Try.f13
noncomputable def h : Hint := { vs := [0, 1, 4, 5, 7, 8, 9, 10, 12, 13], nil := [], cuts := [(4, ([0, 1, 27], []), ([0, 1], [])), (5, ([0, 1], []), ([0, 1], []))], ret := ([4], [5, 10, 12]), ords := [] }
noncomputable def K0 : C := fin (S := cx) E Try.f13.results.toList .bool .ro [] []
noncomputable def c0 : Code := subC b [1]
noncomputable def K1 (k : Nat) : C := outD h c0 K0
noncomputable def K2 (k : Nat) : C := seqC E h k c0 K0
noncomputable def c1 : Code := subC b [1, 1]
noncomputable def K3 (k : Nat) : C := outD h c1 (K1 k)
noncomputable def K4 (k : Nat) : C := seqC E h k c1 (K1 k)
noncomputable def c2 : Code := subC b [1, 0, 1]
noncomputable def K5 (k : Nat) : C := outD h c2 (K4 k)
noncomputable def K6 (k : Nat) : C := seqC E h k c2 (K4 k)
noncomputable def c3 : Code := subC b [1, 0, 1, 0, 1]
noncomputable def K7 (k : Nat) : C := outD h c3 (K5 k)
noncomputable def K8 (k : Nat) : C := seqC E h k c3 (K5 k)
noncomputable def c4 : Code := subC b [1, 1, 1]
noncomputable def K9 (k : Nat) : C := outD h c4 (K3 k)
noncomputable def K10 (k : Nat) : C := seqC E h k c4 (K3 k)
noncomputable def c5 : Code := subC b [1, 1, 0, 1]
noncomputable def K11 (k : Nat) : C := outD h c5 (K10 k)
noncomputable def K12 (k : Nat) : C := seqC E h k c5 (K10 k)
noncomputable def c6 : Code := subC b [1, 1, 0, 1, 0, 1]
noncomputable def K13 (k : Nat) : C := outD h c6 (K11 k)
noncomputable def K14 (k : Nat) : C := seqC E h k c6 (K11 k)
noncomputable def c7 : Code := subC b [1, 1, 1, 1]
noncomputable def K15 (k : Nat) : C := outD h c7 (K9 k)
noncomputable def K16 (k : Nat) : C := seqC E h k c7 (K9 k)
noncomputable def c8 : Code := subC b [1, 1, 1, 1, 1]
noncomputable def K17 (k : Nat) : C := outD h c8 (K15 k)
noncomputable def K18 (k : Nat) : C := seqC E h k c8 (K15 k)
noncomputable def c9 : Code := subC b [1, 1, 1, 1, 1, 1]
noncomputable def K19 (k : Nat) : C := outD h c9 (K17 k)
noncomputable def K20 (k : Nat) : C := seqC E h k c9 (K17 k)
noncomputable def c10 : Code := subC b [1, 1, 1, 1, 1, 0, 1]
noncomputable def K21 (k : Nat) : C := outD h c10 (K20 k)
noncomputable def K22 (k : Nat) : C := seqC E h k c10 (K20 k)
noncomputable def c11 : Code := subC b [1, 1, 1, 1, 1, 0, 1, 1]
noncomputable def K23 (k : Nat) : C := outD h c11 (K21 k)
noncomputable def K24 (k : Nat) : C := seqC E h k c11 (K21 k)
noncomputable def c12 : Code := subC b [1, 1, 1, 1, 1, 0, 1, 1, 0, 1]
noncomputable def K25 (k : Nat) : C := outD h c12 (K23 k)
noncomputable def K26 (k : Nat) : C := seqC E h k c12 (K23 k)
noncomputable def c13 : Code := subC b [1, 1, 1, 1, 1, 1, 1]
noncomputable def K27 (k : Nat) : C := outD h c13 (K19 k)
noncomputable def K28 (k : Nat) : C := seqC E h k c13 (K19 k)
noncomputable def c14 : Code := subC b [1, 1, 1, 1, 1, 1, 1, 1]
noncomputable def K29 (k : Nat) : C := outD h c14 (K27 k)
noncomputable def K30 (k : Nat) : C := seqC E h k c14 (K27 k)
noncomputable def c15 : Code := subC b [1, 1, 1, 1, 1, 1, 1, 1, 1]
noncomputable def K31 (k : Nat) : C := outD h c15 (K29 k)
noncomputable def K32 (k : Nat) : C := seqC E h k c15 (K29 k)
abbrev T2 := (List UInt8) → (List ((Int) × ((Int) × (List UInt8)))) → R
abbrev T1 := (List UInt8) → (List ((Int) × ((Int) × (List UInt8)))) → Bool → R
abbrev T0 := (List UInt8) → (List ((Int) × ((Int) × (List UInt8)))) → R
abbrev s2 : (List UInt8) → (List ((Int) × ((Int) × (List UInt8)))) → ST cx := fun (x0 : List UInt8) (x1 : List ((Int) × ((Int) × (List UInt8)))) => ({ vars := [(0, .v .str .ro x0), (1, .v (.slice 41 (.agg (.pair (.int .i64) (.pair (.int .i64) .str)))) .ro x1)], scr := [], mems := [] } : ST cx)
noncomputable def u2 (k : Nat) : T2 := fun (x0 : List UInt8) (x1 : List ((Int) × ((Int) × (List UInt8)))) => uK (run E h k c4) (s2 x0 x1) (K9 k)
noncomputable abbrev l2 (k : Nat) : T2 := fun (x0 : List UInt8) (x1 : List ((Int) × ((Int) × (List UInt8)))) => cutK (run E h k c4) (s2 x0 x1) (K9 k)
abbrev s1 : (List UInt8) → (List ((Int) × ((Int) × (List UInt8)))) → Bool → ST cx := fun (x0 : List UInt8) (x1 : List ((Int) × ((Int) × (List UInt8)))) (x27 : Bool) => ({ vars := [(0, .v .str .ro x0), (1, .v (.slice 41 (.agg (.pair (.int .i64) (.pair (.int .i64) .str)))) .ro x1), (27, .v .bool .ro x27)], scr := [], mems := [] } : ST cx)
noncomputable def u1 (k : Nat) : T1 := fun (x0 : List UInt8) (x1 : List ((Int) × ((Int) × (List UInt8)))) (x27 : Bool) => uK (run E h k c5) (s1 x0 x1 x27) (K11 k)
noncomputable abbrev l1 (k : Nat) : T1 := fun (x0 : List UInt8) (x1 : List ((Int) × ((Int) × (List UInt8)))) (x27 : Bool) => cutK (run E h k c5) (s1 x0 x1 x27) (K11 k)
noncomputable def u0 (k : Nat) : T0 := fun (x0 : List UInt8) (x1 : List ((Int) × ((Int) × (List UInt8)))) => runOf (S := cx) E h k Try.f13 [.val .str, .val (.slice 41 (.agg (.pair (.int .i64) (.pair (.int .i64) .str))))] .bool .ro (x0, x1, ())
def t2 : T2 := fun (x0 : List UInt8) (x1 : List ((Int) × ((Int) × (List UInt8)))) => 
  (bindR (s_rope_Of (x0, ())) fun r4 => (bindR (s_edit_Back (r4.1.1, (x1, ()))) fun r5 => (bindR (s_ref04_Check (x0, (x1, ()))) fun r6 => (iteB (!decide (r6.1 = (0 : Int))) (iteB (decide (((List.length r5.1.1 : Nat) : Int) = (0 : Int))) (some ((decide (r5.1.2 = r6.1)), ())) (some (false, ()))) (bindR (s_edit_Apply (r4.1.1, (x1, ()))) fun r7 => (bindR (s_edit_Apply (r7.1.1, (r5.1.1, ()))) fun r8 => (iteB (decide (r5.1.2 = (0 : Int))) (bindR (s_ref04_Back (x0, (x1, ()))) fun r9 => (bindR (s_ref04_Same (r5.1.1, (r9.1, ()))) fun r10 => (iteB r10.1 (iteB (decide (r8.1.2 = (0 : Int))) (bindR (s_Text (r8.1.1, ())) fun r11 => (some ((decide (r11.1 = x0)), ()))) (some (false, ()))) (some (false, ()))))) (some (false, ())))))))))
theorem e2 (k : Nat) : u2 k = t2 := by kernel_rfl
theorem g2 (k : Nat) : l2 k = u2 k := funext fun _ => funext fun _ => cut_u _ _ _
def p2 (k : Nat) : T2 := t2
theorem o2 (k : Nat) : l2 k = p2 k := (Eq.trans (b := u2 k) (g2 k) (Eq.trans (b := t2) (e2 k) (by kernel_rfl)))
def t1 (f2 : T2) : T1 := fun (x0 : List UInt8) (x1 : List ((Int) × ((Int) × (List UInt8)))) (x27 : Bool) => 
  (iteB x27 (some (true, ())) (f2 x0 x1))
theorem e1 (k : Nat) : u1 k = t1 (l2 k) := by kernel_rfl
theorem g1 (k : Nat) : l1 k = u1 k := funext fun _ => funext fun _ => funext fun _ => cut_u _ _ _
theorem d1 {x2 y2 : T2} (h2 : x2 = y2) : t1 x2 = t1 y2 := by subst h2; rfl
def p1 (k : Nat) : T1 := t1 (p2 k)
theorem o1 (k : Nat) : l1 k = p1 k := (Eq.trans (b := u1 k) (g1 k) (Eq.trans (b := t1 (l2 k)) (e1 k) (Eq.trans (b := t1 (p2 k)) (d1 (o2 k)) (by kernel_rfl))))
def t0 (f1 : T1) : T0 := fun (x0 : List UInt8) (x1 : List ((Int) × ((Int) × (List UInt8)))) => 
  (bindR (s_law04_alive ()) fun r1 => (iteB (notB r1.1) (some (false, ())) (iteB (decide ((2000 : Int) < ((List.length x0 : Nat) : Int))) (f1 x0 x1 true) (bindR (s_law04_Great (x1, ())) fun r2 => (iteB r2.1 (f1 x0 x1 true) (bindR (s_ref01_Whole (x0, ())) fun r3 => (f1 x0 x1 (notB r3.1))))))))
theorem e0 (k : Nat) : u0 k = t0 (l1 k) := by kernel_rfl
theorem d0 {x1 y1 : T1} (h1 : x1 = y1) : t0 x1 = t0 y1 := by subst h1; rfl
def p0 (k : Nat) : T0 := t0 (p1 k)
theorem o0 (k : Nat) : u0 k = p0 k := (Eq.trans (b := t0 (l1 k)) (e0 k) (Eq.trans (b := t0 (p1 k)) (d0 (o1 k)) (by kernel_rfl)))
end law04_EditBack
def s_law04_EditBack (a : (List UInt8) × ((List ((Int) × ((Int) × (List UInt8)))) × (Unit))) : Option ((Bool) × (Unit)) := law04_EditBack.p0 (fuel) a.1 a.2.1
noncomputable def F_law04_EditBack : FSpec cx.toNm := { ps := [.val .str, .val (.slice 41 (.agg (.pair (.int .i64) (.pair (.int .i64) .str))))], nres := 1, rt := .bool, rm := .ro, f := s_law04_EditBack }
theorem ok_law04_EditBack : FnOk Try.prog F_law04_EditBack 13 := fn_of (hn := law04_EditBack.h) (E := law04_EditBack.E) cxOk (tysT _) (fs_cons ok_law04_Great (fs_cons ok_ref04_Check (fs_cons ok_ref04_Back (fs_cons ok_Text (fs_cons ok_rope_Of (fs_cons ok_law04_alive (fs_cons ok_ref01_Whole (fs_cons ok_edit_Back (fs_cons ok_edit_Apply (fs_cons ok_ref04_Same fs_nil)))))))))) follows Try.func13 (by kernel_rfl) (fun a r h => ⟨fuel, (congrFun (congrFun (law04_EditBack.o0 (fuel)) a.1) a.2.1).trans h⟩)
end
end Go.Proofs.Ytdifekkamjoepaa.Vm.Rp
