/- What the laws of edits compute, as plain functions; that they do. -/
import Derived.Test.YtdifekkamjoepaaFnsEdit
namespace Go.Proofs.Ytdifekkamjoepaa.Vm.Rp
open Go Go.Proofs.Ytdifekkamjoepaa.Vm Go.Proofs
set_option linter.unusedVariables false
set_option maxRecDepth 100000
noncomputable section
namespace edit_Grow
noncomputable def E : Env cx := { tys := tys, fs := fsOf [(108, F_edit_edits_put)] }
abbrev R := Option ((Int) × (Unit))
abbrev C := Exit → ST cx → R
noncomputable def b : Code := bodyC Try.f72
noncomputable def h : Hint := { vs := [0, 2, 3, 5, 8, 9, 10], nil := [(6, (.pr .ro (.own .ro)))], cuts := [(3, ([3, 8, 9, 10], [7]), ([3], [7])), (7, ([3], [7]), ([3], [7]))], ret := ([2], [5, 7]), ords := [] }
noncomputable def K0 : C := fin (S := cx) E Try.f72.results.toList (.int .i64) .ro [] []
noncomputable def c0 : Code := subC b [1]
noncomputable def K1 (k : Nat) : C := outD h c0 K0
noncomputable def K2 (k : Nat) : C := seqC E h k c0 K0
noncomputable def c1 : Code := subC b [1, 1]
noncomputable def K3 (k : Nat) : C := outD h c1 (K1 k)
noncomputable def K4 (k : Nat) : C := seqC E h k c1 (K1 k)
noncomputable def c2 : Code := subC b [1, 1, 1]
noncomputable def K5 (k : Nat) : C := outD h c2 (K3 k)
noncomputable def K6 (k : Nat) : C := seqC E h k c2 (K3 k)
noncomputable def c3 : Code := subC b [1, 1, 0, 1]
noncomputable def K7 (k : Nat) : C := outD h c3 (K6 k)
noncomputable def K8 (k : Nat) : C := seqC E h k c3 (K6 k)
noncomputable def K9 (k : Nat) : C := blockK 0 (K7 k)
noncomputable def c4 : Code := subC b [1, 1, 0, 1, 0, 0]
noncomputable def K10 (k n1 : Nat) : C := loopD E h k c4 (K9 k) n1
noncomputable def c5 : Code := subC b [1, 1, 0, 1, 0, 0, 1]
noncomputable def K11 (k n1 : Nat) : C := outD h c5 (K10 k n1)
noncomputable def K12 (k n1 : Nat) : C := seqC E h k c5 (K10 k n1)
noncomputable def c6 : Code := subC b [1, 1, 0, 1, 0, 0, 1, 1]
noncomputable def K13 (k n1 : Nat) : C := outD h c6 (K11 k n1)
noncomputable def K14 (k n1 : Nat) : C := seqC E h k c6 (K11 k n1)
noncomputable def c7 : Code := subC b [1, 1, 0, 1, 0, 0, 1, 1, 1]
noncomputable def K15 (k n1 : Nat) : C := outD h c7 (K13 k n1)
noncomputable def K16 (k n1 : Nat) : C := seqC E h k c7 (K13 k n1)
noncomputable def K17 (k n1 : Nat) : C := blockK 1 (K16 k n1)
noncomputable def c8 : Code := subC b [1, 1, 0, 1, 0, 0, 1, 1, 0, 0, 1]
noncomputable def K18 (k n1 : Nat) : C := outD h c8 (K17 k n1)
noncomputable def K19 (k n1 : Nat) : C := seqC E h k c8 (K17 k n1)
noncomputable def c9 : Code := subC b [1, 1, 1, 1]
noncomputable def K20 (k : Nat) : C := outD h c9 (K5 k)
noncomputable def K21 (k : Nat) : C := seqC E h k c9 (K5 k)
abbrev T2 := (((Int) × (Int)) × (List ((Int) × ((Int) × (List UInt8))))) → R
abbrev T1 := (List ((Int) × ((Int) × (List UInt8)))) → Int → Int → (((Int) × (Int)) × (List ((Int) × ((Int) × (List UInt8))))) → R
abbrev T0 := (List ((Int) × ((Int) × (List UInt8)))) → R
abbrev s2 : (((Int) × (Int)) × (List ((Int) × ((Int) × (List UInt8))))) → ST cx := fun (m7 : ((Int) × (Int)) × (List ((Int) × ((Int) × (List UInt8))))) => ({ vars := [(3, .addr (.mem 7) [])], scr := [], mems := [(7, ⟨(.agg (.pair (.agg (.pair (.int .i64) (.int .i64))) (.slice 41 (.agg (.pair (.int .i64) (.pair (.int .i64) .str)))))), (.pr .ro (.own .ro)), m7⟩)] } : ST cx)
noncomputable def u2 (k : Nat) : T2 := fun (m7 : ((Int) × (Int)) × (List ((Int) × ((Int) × (List UInt8))))) => uK (run E h k c2) (s2 m7) (K5 k)
noncomputable abbrev l2 (k : Nat) : T2 := fun (m7 : ((Int) × (Int)) × (List ((Int) × ((Int) × (List UInt8))))) => cutK (run E h k c2) (s2 m7) (K5 k)
abbrev s1 : (List ((Int) × ((Int) × (List UInt8)))) → Int → Int → (((Int) × (Int)) × (List ((Int) × ((Int) × (List UInt8))))) → ST cx := fun (x8 : List ((Int) × ((Int) × (List UInt8)))) (x9 x10 : Int) (m7 : ((Int) × (Int)) × (List ((Int) × ((Int) × (List UInt8))))) => ({ vars := [(3, .addr (.mem 7) []), (8, .v (.slice 41 (.agg (.pair (.int .i64) (.pair (.int .i64) .str)))) .ro x8), (9, .v (.int .i64) .ro x9), (10, .v (.int .i64) .ro x10)], scr := [], mems := [(7, ⟨(.agg (.pair (.agg (.pair (.int .i64) (.int .i64))) (.slice 41 (.agg (.pair (.int .i64) (.pair (.int .i64) .str)))))), (.pr .ro (.own .ro)), m7⟩)] } : ST cx)
noncomputable def u1 (k n1 : Nat) : T1 := fun (x8 : List ((Int) × ((Int) × (List UInt8)))) (x9 x10 : Int) (m7 : ((Int) × (Int)) × (List ((Int) × ((Int) × (List UInt8))))) => uK (loopL E h k c4 (K9 k) n1) (s1 x8 x9 x10 m7) ()
noncomputable abbrev l1 (k n1 : Nat) : T1 := fun (x8 : List ((Int) × ((Int) × (List UInt8)))) (x9 x10 : Int) (m7 : ((Int) × (Int)) × (List ((Int) × ((Int) × (List UInt8))))) => cutK (loopL E h k c4 (K9 k) n1) (s1 x8 x9 x10 m7) ()
noncomputable def u0 (k : Nat) : T0 := fun (x0 : List ((Int) × ((Int) × (List UInt8)))) => runOf (S := cx) E h k Try.f72 [.val (.slice 41 (.agg (.pair (.int .i64) (.pair (.int .i64) .str))))] (.int .i64) .ro (x0, ())
def t2 : T2 := fun (m7 : ((Int) × (Int)) × (List ((Int) × ((Int) × (List UInt8))))) => 
  (some (m7.1.1, ()))
theorem e2 (k : Nat) : u2 k = t2 := by kernel_rfl
theorem g2 (k : Nat) : l2 k = u2 k := funext fun _ => cut_u _ _ _
def p2 (k : Nat) : T2 := t2
theorem o2 (k : Nat) : l2 k = p2 k := (Eq.trans (b := u2 k) (g2 k) (Eq.trans (b := t2) (e2 k) (by kernel_rfl)))
def t1 (f1 : T1) (f2 : T2) : T1 := fun (x8 : List ((Int) × ((Int) × (List UInt8)))) (x9 x10 : Int) (m7 : ((Int) × (Int)) × (List ((Int) × ((Int) × (List UInt8))))) => 
  (iteB (decide (x10 < x9)) (withinR x10 (List.length x8) fun q1 => (bindR (s_edit_edits_put (m7, ((List.getD x8 q1 ((0 : Int), ((0 : Int), ([] : List UInt8)))), ()))) fun r2 => (f1 x8 x9 (w64 (x10 + (1 : Int))) r2.2.1))) (f2 m7))
theorem e1 (k n1 : Nat) : u1 k (n1 + 1) = t1 (l1 k n1) (l2 k) := by kernel_rfl
theorem g1 (k n1 : Nat) : l1 k (n1 + 1) = u1 k (n1 + 1) := funext fun _ => funext fun _ => funext fun _ => funext fun _ => cut_u _ _ _
theorem d1 {x1 y1 : T1} {x2 y2 : T2} (h1 : x1 = y1) (h2 : x2 = y2) : t1 x1 x2 = t1 y1 y2 := by subst h1; subst h2; rfl
def p1 (k : Nat) : Nat → T1
  | 0 => fun _ _ _ _ => none
  | n1 + 1 => t1 (p1 k n1) (p2 k)
theorem o1 (k : Nat) : ∀ n1, l1 k n1 = p1 k n1 := by
  intro n1
  induction n1 with
  | zero => kernel_rfl
  | succ n1 ih => exact (Eq.trans (b := u1 k (n1 + 1)) (g1 k n1) (Eq.trans (b := t1 (l1 k n1) (l2 k)) (e1 k n1) (Eq.trans (b := t1 (p1 k n1) (p2 k)) (d1 ih (o2 k)) (by kernel_rfl))))
def t0 (f1 : T1) : T0 := fun (x0 : List ((Int) × ((Int) × (List UInt8)))) => 
  (f1 x0 ((List.length x0 : Nat) : Int) (0 : Int) (((0 : Int), (0 : Int)), ([] : List ((Int) × ((Int) × (List UInt8))))))
theorem e0 (k : Nat) : u0 k = t0 (l1 k k) := by kernel_rfl
theorem d0 {x1 y1 : T1} (h1 : x1 = y1) : t0 x1 = t0 y1 := by subst h1; rfl
def p0 (k : Nat) : T0 := t0 (p1 k k)
theorem o0 (k : Nat) : u0 k = p0 k := (Eq.trans (b := t0 (l1 k k)) (e0 k) (Eq.trans (b := t0 (p1 k k)) (d0 (o1 k k)) (by kernel_rfl)))
end edit_Grow
def s_edit_Grow (a : (List ((Int) × ((Int) × (List UInt8)))) × (Unit)) : Option ((Int) × (Unit)) := edit_Grow.p0 (fuel) a.1
noncomputable def F_edit_Grow : FSpec cx.toNm := { ps := [.val (.slice 41 (.agg (.pair (.int .i64) (.pair (.int .i64) .str))))], nres := 1, rt := (.int .i64), rm := .ro, f := s_edit_Grow }
theorem ok_edit_Grow : FnOk Try.prog F_edit_Grow 72 := fn_of (hn := edit_Grow.h) (E := edit_Grow.E) cxOk (tysT _) (fs_cons ok_edit_edits_put fs_nil) follows Try.func72 (by kernel_rfl) (fun a r h => ⟨fuel, (congrFun (edit_Grow.o0 (fuel)) a.1).trans h⟩)
namespace law04_EditApplies
noncomputable def E : Env cx := { tys := tys, fs := fsOf [(18, F_law04_Great), (19, F_ref04_Check), (24, F_ref04_Apply), (39, F_Text), (40, F_rope_Of), (45, F_rope_Rope_Len), (63, F_law04_alive), (66, F_edit_Apply), (71, F_edit_Check), (72, F_edit_Grow)] }
abbrev R := Option ((Bool) × (Unit))
abbrev C := Exit → ST cx → R
noncomputable def b : Code := bodyC Try.f16
noncomputable def h : Hint := { vs := [0, 1, 4, 5, 7, 8, 9, 10, 11], nil := [], cuts := [(4, ([0, 1, 20], []), ([0, 1], [])), (5, ([0, 1], []), ([0, 1], [])), (10, ([0, 1, 8, 10, 51], [8]), ([0, 1, 8, 10], [8])), (11, ([0, 1, 8, 10], [8]), ([0, 1, 8, 10], [8]))], ret := ([4], [5, 8]), ords := [] }
noncomputable def K0 : C := fin (S := cx) E Try.f16.results.toList .bool .ro [] []
noncomputable def c0 : Code := subC b [1]
noncomputable def K1 (k : Nat) : C := outD h c0 K0
noncomputable def K2 (k : Nat) : C := seqC E h k c0 K0
noncomputable def c1 : Code := subC b [1, 1]
noncomputable def K3 (k : Nat) : C := outD h c1 (K1 k)
noncomputable def K4 (k : Nat) : C := seqC E h k c1 (K1 k)
noncomputable def c2 : Code := subC b [1, 0, 1]
noncomputable def K5 (k : Nat) : C := outD h c2 (K4 k)
noncomputable def K6 (k : Nat) : C := seqC E h k c2 (K4 k)
noncomputable def c3 : Code := subC b [1, 0, 1, 0, 1]
noncomputable def K7 (k : Nat) : C := outD h c3 (K5 k)
noncomputable def K8 (k : Nat) : C := seqC E h k c3 (K5 k)
noncomputable def c4 : Code := subC b [1, 1, 1]
noncomputable def K9 (k : Nat) : C := outD h c4 (K3 k)
noncomputable def K10 (k : Nat) : C := seqC E h k c4 (K3 k)
noncomputable def c5 : Code := subC b [1, 1, 0, 1]
noncomputable def K11 (k : Nat) : C := outD h c5 (K10 k)
noncomputable def K12 (k : Nat) : C := seqC E h k c5 (K10 k)
noncomputable def c6 : Code := subC b [1, 1, 0, 1, 0, 1]
noncomputable def K13 (k : Nat) : C := outD h c6 (K11 k)
noncomputable def K14 (k : Nat) : C := seqC E h k c6 (K11 k)
noncomputable def c7 : Code := subC b [1, 1, 1, 1]
noncomputable def K15 (k : Nat) : C := outD h c7 (K9 k)
noncomputable def K16 (k : Nat) : C := seqC E h k c7 (K9 k)
noncomputable def c8 : Code := subC b [1, 1, 1, 1, 1]
noncomputable def K17 (k : Nat) : C := outD h c8 (K15 k)
noncomputable def K18 (k : Nat) : C := seqC E h k c8 (K15 k)
noncomputable def c9 : Code := subC b [1, 1, 1, 1, 1, 1]
noncomputable def K19 (k : Nat) : C := outD h c9 (K17 k)
noncomputable def K20 (k : Nat) : C := seqC E h k c9 (K17 k)
noncomputable def c10 : Code := subC b [1, 1, 1, 1, 1, 1, 1]
noncomputable def K21 (k : Nat) : C := outD h c10 (K19 k)
noncomputable def K22 (k : Nat) : C := seqC E h k c10 (K19 k)
noncomputable def c11 : Code := subC b [1, 1, 1, 1, 1, 1, 1, 1]
noncomputable def K23 (k : Nat) : C := outD h c11 (K21 k)
noncomputable def K24 (k : Nat) : C := seqC E h k c11 (K21 k)
noncomputable def c12 : Code := subC b [1, 1, 1, 1, 1, 1, 1, 0, 1]
noncomputable def K25 (k : Nat) : C := outD h c12 (K24 k)
noncomputable def K26 (k : Nat) : C := seqC E h k c12 (K24 k)
noncomputable def c13 : Code := subC b [1, 1, 1, 1, 1, 1, 1, 0, 1, 0, 1]
noncomputable def K27 (k : Nat) : C := outD h c13 (K25 k)
noncomputable def K28 (k : Nat) : C := seqC E h k c13 (K25 k)
noncomputable def c14 : Code := subC b [1, 1, 1, 1, 1, 1, 1, 1, 1]
noncomputable def K29 (k : Nat) : C := outD h c14 (K23 k)
noncomputable def K30 (k : Nat) : C := seqC E h k c14 (K23 k)
noncomputable def c15 : Code := subC b [1, 1, 1, 1, 1, 1, 1, 1, 0, 1]
noncomputable def K31 (k : Nat) : C := outD h c15 (K30 k)
noncomputable def K32 (k : Nat) : C := seqC E h k c15 (K30 k)
noncomputable def c16 : Code := subC b [1, 1, 1, 1, 1, 1, 1, 1, 0, 1, 0, 1]
noncomputable def K33 (k : Nat) : C := outD h c16 (K31 k)
noncomputable def K34 (k : Nat) : C := seqC E h k c16 (K31 k)
noncomputable def c17 : Code := subC b [1, 1, 1, 1, 1, 1, 1, 1, 1, 1]
noncomputable def K35 (k : Nat) : C := outD h c17 (K29 k)
noncomputable def K36 (k : Nat) : C := seqC E h k c17 (K29 k)
noncomputable def c18 : Code := subC b [1, 1, 1, 1, 1, 1, 1, 1, 1, 1, 1]
noncomputable def K37 (k : Nat) : C := outD h c18 (K35 k)
noncomputable def K38 (k : Nat) : C := seqC E h k c18 (K35 k)
abbrev T4 := (List UInt8) → (List ((Int) × ((Int) × (List UInt8)))) → Int → (Option N0) → R
abbrev T3 := (List UInt8) → (List ((Int) × ((Int) × (List UInt8)))) → Int → Bool → (Option N0) → R
abbrev T2 := (List UInt8) → (List ((Int) × ((Int) × (List UInt8)))) → R
abbrev T1 := (List UInt8) → (List ((Int) × ((Int) × (List UInt8)))) → Bool → R
abbrev T0 := (List UInt8) → (List ((Int) × ((Int) × (List UInt8)))) → R
abbrev s4 : (List UInt8) → (List ((Int) × ((Int) × (List UInt8)))) → Int → (Option N0) → ST cx := fun (x0 : List UInt8) (x1 : List ((Int) × ((Int) × (List UInt8)))) (x10 : Int) (m8 : Option N0) => ({ vars := [(0, .v .str .ro x0), (1, .v (.slice 41 (.agg (.pair (.int .i64) (.pair (.int .i64) .str)))) .ro x1), (8, .addr (.mem 8) []), (10, .v (.int .i64) .ro x10)], scr := [], mems := [(8, ⟨(.agg (.ptr 0)), .ro, m8⟩)] } : ST cx)
noncomputable def u4 (k : Nat) : T4 := fun (x0 : List UInt8) (x1 : List ((Int) × ((Int) × (List UInt8)))) (x10 : Int) (m8 : Option N0) => uK (run E h k c11) (s4 x0 x1 x10 m8) (K23 k)
noncomputable abbrev l4 (k : Nat) : T4 := fun (x0 : List UInt8) (x1 : List ((Int) × ((Int) × (List UInt8)))) (x10 : Int) (m8 : Option N0) => cutK (run E h k c11) (s4 x0 x1 x10 m8) (K23 k)
abbrev s3 : (List UInt8) → (List ((Int) × ((Int) × (List UInt8)))) → Int → Bool → (Option N0) → ST cx := fun (x0 : List UInt8) (x1 : List ((Int) × ((Int) × (List UInt8)))) (x10 : Int) (x51 : Bool) (m8 : Option N0) => ({ vars := [(0, .v .str .ro x0), (1, .v (.slice 41 (.agg (.pair (.int .i64) (.pair (.int .i64) .str)))) .ro x1), (8, .addr (.mem 8) []), (10, .v (.int .i64) .ro x10), (51, .v .bool .ro x51)], scr := [], mems := [(8, ⟨(.agg (.ptr 0)), .ro, m8⟩)] } : ST cx)
noncomputable def u3 (k : Nat) : T3 := fun (x0 : List UInt8) (x1 : List ((Int) × ((Int) × (List UInt8)))) (x10 : Int) (x51 : Bool) (m8 : Option N0) => uK (run E h k c12) (s3 x0 x1 x10 x51 m8) (K25 k)
noncomputable abbrev l3 (k : Nat) : T3 := fun (x0 : List UInt8) (x1 : List ((Int) × ((Int) × (List UInt8)))) (x10 : Int) (x51 : Bool) (m8 : Option N0) => cutK (run E h k c12) (s3 x0 x1 x10 x51 m8) (K25 k)
abbrev s2 : (List UInt8) → (List ((Int) × ((Int) × (List UInt8)))) → ST cx := fun (x0 : List UInt8) (x1 : List ((Int) × ((Int) × (List UInt8)))) => ({ vars := [(0, .v .str .ro x0), (1, .v (.slice 41 (.agg (.pair (.int .i64) (.pair (.int .i64) .str)))) .ro x1)], scr := [], mems := [] } : ST cx)
noncomputable def u2 (k : Nat) : T2 := fun (x0 : List UInt8) (x1 : List ((Int) × ((Int) × (List UInt8)))) => uK (run E h k c4) (s2 x0 x1) (K9 k)
noncomputable abbrev l2 (k : Nat) : T2 := fun (x0 : List UInt8) (x1 : List ((Int) × ((Int) × (List UInt8)))) => cutK (run E h k c4) (s2 x0 x1) (K9 k)
abbrev s1 : (List UInt8) → (List ((Int) × ((Int) × (List UInt8)))) → Bool → ST cx := fun (x0 : List UInt8) (x1 : List ((Int) × ((Int) × (List UInt8)))) (x20 : Bool) => ({ vars := [(0, .v .str .ro x0), (1, .v (.slice 41 (.agg (.pair (.int .i64) (.pair (.int .i64) .str)))) .ro x1), (20, .v .bool .ro x20)], scr := [], mems := [] } : ST cx)
noncomputable def u1 (k : Nat) : T1 := fun (x0 : List UInt8) (x1 : List ((Int) × ((Int) × (List UInt8)))) (x20 : Bool) => uK (run E h k c5) (s1 x0 x1 x20) (K11 k)
noncomputable abbrev l1 (k : Nat) : T1 := fun (x0 : List UInt8) (x1 : List ((Int) × ((Int) × (List UInt8)))) (x20 : Bool) => cutK (run E h k c5) (s1 x0 x1 x20) (K11 k)
noncomputable def u0 (k : Nat) : T0 := fun (x0 : List UInt8) (x1 : List ((Int) × ((Int) × (List UInt8)))) => runOf (S := cx) E h k Try.f16 [.val .str, .val (.slice 41 (.agg (.pair (.int .i64) (.pair (.int .i64) .str))))] .bool .ro (x0, x1, ())
def t4 : T4 := fun (x0 : List UInt8) (x1 : List ((Int) × ((Int) × (List UInt8)))) (x10 : Int) (m8 : Option N0) => 
  (iteB (!decide (x10 = (0 : Int))) (bindR (s_rope_Rope_Len (m8, ())) fun r8 => (some ((decide (r8.1 = (0 : Int))), ()))) (bindR (s_ref04_Apply (x0, (x1, ()))) fun r9 => (bindR (s_Text (m8, ())) fun r10 => (iteB (decide (r10.1 = r9.1)) (bindR (s_edit_Grow (x1, ())) fun r11 => (some ((decide (r11.1 = (w64 (((List.length r9.1 : Nat) : Int) - ((List.length x0 : Nat) : Int))))), ()))) (some (false, ()))))))
theorem e4 (k : Nat) : u4 k = t4 := by kernel_rfl
theorem g4 (k : Nat) : l4 k = u4 k := funext fun _ => funext fun _ => funext fun _ => funext fun _ => cut_u _ _ _
def p4 (k : Nat) : T4 := t4
theorem o4 (k : Nat) : l4 k = p4 k := (Eq.trans (b := u4 k) (g4 k) (Eq.trans (b := t4) (e4 k) (by kernel_rfl)))
def t3 (f4 : T4) : T3 := fun (x0 : List UInt8) (x1 : List ((Int) × ((Int) × (List UInt8)))) (x10 : Int) (x51 : Bool) (m8 : Option N0) => 
  (iteB x51 (some (false, ())) (f4 x0 x1 x10 m8))
theorem e3 (k : Nat) : u3 k = t3 (l4 k) := by kernel_rfl
theorem g3 (k : Nat) : l3 k = u3 k := funext fun _ => funext fun _ => funext fun _ => funext fun _ => funext fun _ => cut_u _ _ _
theorem d3 {x4 y4 : T4} (h4 : x4 = y4) : t3 x4 = t3 y4 := by subst h4; rfl
def p3 (k : Nat) : T3 := t3 (p4 k)
theorem o3 (k : Nat) : l3 k = p3 k := (Eq.trans (b := u3 k) (g3 k) (Eq.trans (b := t3 (l4 k)) (e3 k) (Eq.trans (b := t3 (p4 k)) (d3 (o4 k)) (by kernel_rfl))))
def t2 (f3 : T3) : T2 := fun (x0 : List UInt8) (x1 : List ((Int) × ((Int) × (List UInt8)))) => 
  (bindR (s_rope_Of (x0, ())) fun r3 => (bindR (s_edit_Check (r3.1.1, (x1, ()))) fun r4 => (bindR (s_edit_Apply (r3.1.1, (x1, ()))) fun r5 => (bindR (s_ref04_Check (x0, (x1, ()))) fun r6 => (iteB (!decide (r4.1 = r6.1)) (f3 x0 x1 r6.1 true r5.1.1) (iteB (!decide (r5.1.2 = r6.1)) (f3 x0 x1 r6.1 true r5.1.1) (bindR (s_Text (r3.1.1, ())) fun r7 => (f3 x0 x1 r6.1 (!(decide (r7.1 = x0))) r5.1.1))))))))
theorem e2 (k : Nat) : u2 k = t2 (l3 k) := by kernel_rfl
theorem g2 (k : Nat) : l2 k = u2 k := funext fun _ => funext fun _ => cut_u _ _ _
theorem d2 {x3 y3 : T3} (h3 : x3 = y3) : t2 x3 = t2 y3 := by subst h3; rfl
def p2 (k : Nat) : T2 := t2 (p3 k)
theorem o2 (k : Nat) : l2 k = p2 k := (Eq.trans (b := u2 k) (g2 k) (Eq.trans (b := t2 (l3 k)) (e2 k) (Eq.trans (b := t2 (p3 k)) (d2 (o3 k)) (by kernel_rfl))))
def t1 (f2 : T2) : T1 := fun (x0 : List UInt8) (x1 : List ((Int) × ((Int) × (List UInt8)))) (x20 : Bool) => 
  (iteB x20 (some (true, ())) (f2 x0 x1))
theorem e1 (k : Nat) : u1 k = t1 (l2 k) := by kernel_rfl
theorem g1 (k : Nat) : l1 k = u1 k := funext fun _ => funext fun _ => funext fun _ => cut_u _ _ _
theorem d1 {x2 y2 : T2} (h2 : x2 = y2) : t1 x2 = t1 y2 := by subst h2; rfl
def p1 (k : Nat) : T1 := t1 (p2 k)
theorem o1 (k : Nat) : l1 k = p1 k := (Eq.trans (b := u1 k) (g1 k) (Eq.trans (b := t1 (l2 k)) (e1 k) (Eq.trans (b := t1 (p2 k)) (d1 (o2 k)) (by kernel_rfl))))
def t0 (f1 : T1) : T0 := fun (x0 : List UInt8) (x1 : List ((Int) × ((Int) × (List UInt8)))) => 
  (bindR (s_law04_alive ()) fun r1 => (iteB (notB r1.1) (some (false, ())) (iteB (decide ((3500 : Int) < ((List.length x0 : Nat) : Int))) (f1 x0 x1 true) (bindR (s_law04_Great (x1, ())) fun r2 => (f1 x0 x1 r2.1)))))
theorem e0 (k : Nat) : u0 k = t0 (l1 k) := by kernel_rfl
theorem d0 {x1 y1 : T1} (h1 : x1 = y1) : t0 x1 = t0 y1 := by subst h1; rfl
def p0 (k : Nat) : T0 := t0 (p1 k)
theorem o0 (k : Nat) : u0 k = p0 k := (Eq.trans (b := t0 (l1 k)) (e0 k) (Eq.trans (b := t0 (p1 k)) (d0 (o1 k)) (by kernel_rfl)))
end law04_EditApplies
def s_law04_EditApplies (a : (List UInt8) × ((List ((Int) × ((Int) × (List UInt8)))) × (Unit))) : Option ((Bool) × (Unit)) := law04_EditApplies.p0 (fuel) a.1 a.2.1
noncomputable def F_law04_EditApplies : FSpec cx.toNm := { ps := [.val .str, .val (.slice 41 (.agg (.pair (.int .i64) (.pair (.int .i64) .str))))], nres := 1, rt := .bool, rm := .ro, f := s_law04_EditApplies }
theorem ok_law04_EditApplies : FnOk Try.prog F_law04_EditApplies 16 := fn_of (hn := law04_EditApplies.h) (E := law04_EditApplies.E) cxOk (tysT _) (fs_cons ok_law04_Great (fs_cons ok_ref04_Check (fs_cons ok_ref04_Apply (fs_cons ok_Text (fs_cons ok_rope_Of (fs_cons ok_rope_Rope_Len (fs_cons ok_law04_alive (fs_cons ok_edit_Apply (fs_cons ok_edit_Check (fs_cons ok_edit_Grow fs_nil)))))))))) follows Try.func16 (by kernel_rfl) (fun a r h => ⟨fuel, (congrFun (congrFun (law04_EditApplies.o0 (fuel)) a.1) a.2.1).trans h⟩)
end
end Go.Proofs.Ytdifekkamjoepaa.Vm.Rp
