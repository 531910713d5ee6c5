/- What the functions of places compute, as plain functions; that they do. -/
import Derived.Test.YtdifekkamjoepaaFns
namespace Go.Proofs.Ytdifekkamjoepaa.Vm.Rp
open Go Go.Proofs.Ytdifekkamjoepaa.Vm Go.Proofs
set_option linter.unusedVariables false
set_option maxRecDepth 100000
noncomputable section
namespace place_Mark
noncomputable def E : Env cx := { tys := tys, fs := fsOf [(45, F_rope_Rope_Len), (85, F_rope_Rope_Line), (86, F_rope_Rope_Lines), (97, F_rope_Rope_Signs)] }
abbrev R := Option ((((Int) × (Int)) × (Int)) × (Unit))
abbrev C := Exit → ST cx → R
noncomputable def b : Code := bodyC Try.f50
noncomputable def h : Hint := { vs := [0, 1, 2, 4, 5, 6, 7], nil := [], cuts := [(2, ([1, 2, 4, 16], [2, 4]), ([1, 2, 4], [2, 4])), (3, ([1, 2, 4], [2, 4]), ([1, 2, 4], [2, 4]))], ret := ([4, 5], [2, 4]), ords := [(5, [0, 1, 2, 4, 5, 3, 6, 7, 8, 9, 10])] }
noncomputable def K0 : C := fin (S := cx) E Try.f50.results.toList (.pair (.agg (.pair (.int .i64) (.int .i64))) (.int .i64)) .ro [] []
noncomputable def c0 : Code := subC b [1]
noncomputable def K1 (k : Nat) : C := outD h c0 K0
noncomputable def K2 (k : Nat) : C := seqC E h k c0 K0
noncomputable def c1 : Code := subC b [1, 1]
noncomputable def K3 (k : Nat) : C := outD h c1 (K1 k)
noncomputable def K4 (k : Nat) : C := seqC E h k c1 (K1 k)
noncomputable def c2 : Code := subC b [1, 0, 1]
noncomputable def K5 (k : Nat) : C := outD h c2 (K4 k)
noncomputable def K6 (k : Nat) : C := seqC E h k c2 (K4 k)
noncomputable def c3 : Code := subC b [1, 0, 1, 0, 1]
noncomputable def K7 (k : Nat) : C := outD h c3 (K5 k)
noncomputable def K8 (k : Nat) : C := seqC E h k c3 (K5 k)
noncomputable def c4 : Code := subC b [1, 1, 1]
noncomputable def K9 (k : Nat) : C := outD h c4 (K3 k)
noncomputable def K10 (k : Nat) : C := seqC E h k c4 (K3 k)
noncomputable def c5 : Code := subC b [1, 1, 1, 1]
noncomputable def K11 (k : Nat) : C := outD h c5 (K9 k)
noncomputable def K12 (k : Nat) : C := seqC E h k c5 (K9 k)
noncomputable def c6 : Code := subC b [1, 1, 1, 1, 1]
noncomputable def K13 (k : Nat) : C := outD h c6 (K11 k)
noncomputable def K14 (k : Nat) : C := seqC E h k c6 (K11 k)
abbrev T2 := Int → (Option N0) → ((Int) × (Int)) → R
abbrev T1 := Int → Bool → (Option N0) → ((Int) × (Int)) → R
abbrev T0 := (Option N0) → Int → R
abbrev s2 : Int → (Option N0) → ((Int) × (Int)) → ST cx := fun (x1 : Int) (m2 : Option N0) (m4 : (Int) × (Int)) => ({ vars := [(1, .v (.int .i64) .ro x1), (2, .addr (.mem 2) []), (4, .addr (.mem 4) [])], scr := [], mems := [(2, ⟨(.agg (.ptr 0)), .ro, m2⟩), (4, ⟨(.agg (.pair (.int .i64) (.int .i64))), .ro, m4⟩)] } : ST cx)
noncomputable def u2 (k : Nat) : T2 := fun (x1 : Int) (m2 : Option N0) (m4 : (Int) × (Int)) => uK (run E h k c1) (s2 x1 m2 m4) (K3 k)
noncomputable abbrev l2 (k : Nat) : T2 := fun (x1 : Int) (m2 : Option N0) (m4 : (Int) × (Int)) => cutK (run E h k c1) (s2 x1 m2 m4) (K3 k)
abbrev s1 : Int → Bool → (Option N0) → ((Int) × (Int)) → ST cx := fun (x1 : Int) (x16 : Bool) (m2 : Option N0) (m4 : (Int) × (Int)) => ({ vars := [(1, .v (.int .i64) .ro x1), (2, .addr (.mem 2) []), (4, .addr (.mem 4) []), (16, .v .bool .ro x16)], scr := [], mems := [(2, ⟨(.agg (.ptr 0)), .ro, m2⟩), (4, ⟨(.agg (.pair (.int .i64) (.int .i64))), .ro, m4⟩)] } : ST cx)
noncomputable def u1 (k : Nat) : T1 := fun (x1 : Int) (x16 : Bool) (m2 : Option N0) (m4 : (Int) × (Int)) => uK (run E h k c2) (s1 x1 x16 m2 m4) (K5 k)
noncomputable abbrev l1 (k : Nat) : T1 := fun (x1 : Int) (x16 : Bool) (m2 : Option N0) (m4 : (Int) × (Int)) => cutK (run E h k c2) (s1 x1 x16 m2 m4) (K5 k)
noncomputable def u0 (k : Nat) : T0 := fun (x0 : Option N0) (x1 : Int) => runOf (S := cx) E h k Try.f50 [.val (.agg (.ptr 0)), .val (.int .i64)] (.pair (.agg (.pair (.int .i64) (.int .i64))) (.int .i64)) .ro (x0, x1, ())
def t2 : T2 := fun (x1 : Int) (m2 : Option N0) (m4 : (Int) × (Int)) => 
  (bindR (s_rope_Rope_Lines (m2, (x1, ()))) fun r2 => (bindR (s_rope_Rope_Line (m2, (r2.1, ()))) fun r3 => (bindR (s_rope_Rope_Signs (m2, (x1, ()))) fun r4 => (bindR (s_rope_Rope_Signs (m2, (r3.1.1, ()))) fun r5 => (some (((r2.1, (w64 (r4.1 - r5.1))), (0 : Int)), ()))))))
theorem e2 (k : Nat) : u2 k = t2 := by kernel_rfl
theorem g2 (k : Nat) : l2 k = u2 k := funext fun _ => funext fun _ => funext fun _ => cut_u _ _ _
def p2 (k : Nat) : T2 := t2
theorem o2 (k : Nat) : l2 k = p2 k := (Eq.trans (b := u2 k) (g2 k) (Eq.trans (b := t2) (e2 k) (by kernel_rfl)))
def t1 (f2 : T2) : T1 := fun (x1 : Int) (x16 : Bool) (m2 : Option N0) (m4 : (Int) × (Int)) => 
  (iteB x16 (some ((((0 : Int), (0 : Int)), (3 : Int)), ())) (f2 x1 m2 m4))
theorem e1 (k : Nat) : u1 k = t1 (l2 k) := by kernel_rfl
theorem g1 (k : Nat) : l1 k = u1 k := funext fun _ => funext fun _ => funext fun _ => funext fun _ => cut_u _ _ _
theorem d1 {x2 y2 : T2} (h2 : x2 = y2) : t1 x2 = t1 y2 := by subst h2; rfl
def p1 (k : Nat) : T1 := t1 (p2 k)
theorem o1 (k : Nat) : l1 k = p1 k := (Eq.trans (b := u1 k) (g1 k) (Eq.trans (b := t1 (l2 k)) (e1 k) (Eq.trans (b := t1 (p2 k)) (d1 (o2 k)) (by kernel_rfl))))
def t0 (f1 : T1) : T0 := fun (x0 : Option N0) (x1 : Int) => 
  (iteB (decide (x1 < (0 : Int))) (f1 x1 true x0 ((0 : Int), (0 : Int))) (bindR (s_rope_Rope_Len (x0, ())) fun r1 => (f1 x1 (decide (r1.1 < x1)) x0 ((0 : Int), (0 : Int)))))
theorem e0 (k : Nat) : u0 k = t0 (l1 k) := by kernel_rfl
theorem d0 {x1 y1 : T1} (h1 : x1 = y1) : t0 x1 = t0 y1 := by subst h1; rfl
def p0 (k : Nat) : T0 := t0 (p1 k)
theorem o0 (k : Nat) : u0 k = p0 k := (Eq.trans (b := t0 (l1 k)) (e0 k) (Eq.trans (b := t0 (p1 k)) (d0 (o1 k)) (by kernel_rfl)))
end place_Mark
def s_place_Mark (a : (Option N0) × ((Int) × (Unit))) : Option ((((Int) × (Int)) × (Int)) × (Unit)) := place_Mark.p0 (fuel) a.1 a.2.1
noncomputable def F_place_Mark : FSpec cx.toNm := { ps := [.val (.agg (.ptr 0)), .val (.int .i64)], nres := 2, rt := (.pair (.agg (.pair (.int .i64) (.int .i64))) (.int .i64)), rm := .ro, f := s_place_Mark }
theorem ok_place_Mark : FnOk Try.prog F_place_Mark 50 := fn_of (hn := place_Mark.h) (E := place_Mark.E) cxOk (tysT _) (fs_cons ok_rope_Rope_Len (fs_cons ok_rope_Rope_Line (fs_cons ok_rope_Rope_Lines (fs_cons ok_rope_Rope_Signs fs_nil)))) follows Try.func50 (by kernel_rfl) (fun a r h => ⟨fuel, (congrFun (congrFun (place_Mark.o0 (fuel)) a.1) a.2.1).trans h⟩)
namespace place_find
noncomputable def E : Env cx := { tys := tys, fs := fsOf [(45, F_rope_Rope_Len), (85, F_rope_Rope_Line), (97, F_rope_Rope_Signs)] }
abbrev R := Option (((((Int) × (Int)) × (Int)) × (Bool)) × (Unit))
abbrev C := Exit → ST cx → R
noncomputable def b : Code := bodyC Try.f101
noncomputable def h : Hint := { vs := [0, 1, 2, 4, 5, 6, 7, 8, 9, 10], nil := [], cuts := [(8, ([2, 4, 8], [2, 4, 8]), ([2, 4, 8], [2, 4, 8]))], ret := ([4, 5], [2, 4, 8]), ords := [(8, [0, 1, 2, 3, 5, 6, 7, 8, 4, 9, 10, 11, 12])] }
noncomputable def K0 : C := fin (S := cx) E Try.f101.results.toList (.pair (.agg (.pair (.agg (.pair (.int .i64) (.int .i64))) (.int .i64))) .bool) .ro [] []
noncomputable def c0 : Code := subC b [1]
noncomputable def K1 (k : Nat) : C := outD h c0 K0
noncomputable def K2 (k : Nat) : C := seqC E h k c0 K0
noncomputable def c1 : Code := subC b [1, 1]
noncomputable def K3 (k : Nat) : C := outD h c1 (K1 k)
noncomputable def K4 (k : Nat) : C := seqC E h k c1 (K1 k)
noncomputable def c2 : Code := subC b [1, 1, 1]
noncomputable def K5 (k : Nat) : C := outD h c2 (K3 k)
noncomputable def K6 (k : Nat) : C := seqC E h k c2 (K3 k)
noncomputable def c3 : Code := subC b [1, 1, 0, 1]
noncomputable def K7 (k : Nat) : C := outD h c3 (K6 k)
noncomputable def K8 (k : Nat) : C := seqC E h k c3 (K6 k)
noncomputable def c4 : Code := subC b [1, 1, 0, 1, 0, 1]
noncomputable def K9 (k : Nat) : C := outD h c4 (K7 k)
noncomputable def K10 (k : Nat) : C := seqC E h k c4 (K7 k)
noncomputable def c5 : Code := subC b [1, 1, 1, 1]
noncomputable def K11 (k : Nat) : C := outD h c5 (K5 k)
noncomputable def K12 (k : Nat) : C := seqC E h k c5 (K5 k)
noncomputable def c6 : Code := subC b [1, 1, 1, 1, 1]
noncomputable def K13 (k : Nat) : C := outD h c6 (K11 k)
noncomputable def K14 (k : Nat) : C := seqC E h k c6 (K11 k)
noncomputable def c7 : Code := subC b [1, 1, 1, 1, 0, 1]
noncomputable def K15 (k : Nat) : C := outD h c7 (K14 k)
noncomputable def K16 (k : Nat) : C := seqC E h k c7 (K14 k)
noncomputable def c8 : Code := subC b [1, 1, 1, 1, 0, 1, 1]
noncomputable def K17 (k : Nat) : C := outD h c8 (K15 k)
noncomputable def K18 (k : Nat) : C := seqC E h k c8 (K15 k)
noncomputable def c9 : Code := subC b [1, 1, 1, 1, 1, 1]
noncomputable def K19 (k : Nat) : C := outD h c9 (K13 k)
noncomputable def K20 (k : Nat) : C := seqC E h k c9 (K13 k)
noncomputable def c10 : Code := subC b [1, 1, 1, 1, 1, 1, 1]
noncomputable def K21 (k : Nat) : C := outD h c10 (K19 k)
noncomputable def K22 (k : Nat) : C := seqC E h k c10 (K19 k)
abbrev T1 := (Option N0) → (((Int) × (Int)) × (Int)) → (((Int) × (Int)) × (Int)) → R
abbrev T0 := (Option N0) → Int → R
abbrev s1 : (Option N0) → (((Int) × (Int)) × (Int)) → (((Int) × (Int)) × (Int)) → ST cx := fun (m2 : Option N0) (m4 m8 : ((Int) × (Int)) × (Int)) => ({ vars := [(2, .addr (.mem 2) []), (4, .addr (.mem 4) []), (8, .addr (.mem 8) [])], scr := [], mems := [(2, ⟨(.agg (.ptr 0)), .ro, m2⟩), (4, ⟨(.agg (.pair (.agg (.pair (.int .i64) (.int .i64))) (.int .i64))), .ro, m4⟩), (8, ⟨(.agg (.pair (.agg (.pair (.int .i64) (.int .i64))) (.int .i64))), .ro, m8⟩)] } : ST cx)
noncomputable def u1 (k : Nat) : T1 := fun (m2 : Option N0) (m4 m8 : ((Int) × (Int)) × (Int)) => uK (run E h k c6) (s1 m2 m4 m8) (K13 k)
noncomputable abbrev l1 (k : Nat) : T1 := fun (m2 : Option N0) (m4 m8 : ((Int) × (Int)) × (Int)) => cutK (run E h k c6) (s1 m2 m4 m8) (K13 k)
noncomputable def u0 (k : Nat) : T0 := fun (x0 : Option N0) (x1 : Int) => runOf (S := cx) E h k Try.f101 [.val (.agg (.ptr 0)), .val (.int .i64)] (.pair (.agg (.pair (.agg (.pair (.int .i64) (.int .i64))) (.int .i64))) .bool) .ro (x0, x1, ())
def t1 : T1 := fun (m2 : Option N0) (m4 m8 : ((Int) × (Int)) × (Int)) => 
  (bindR (s_rope_Rope_Signs (m2, (m8.1.2, ()))) fun r4 => (bindR (s_rope_Rope_Signs (m2, (m8.1.1, ()))) fun r5 => (some (((m8.1, (w64 (r4.1 - r5.1))), true), ()))))
theorem e1 (k : Nat) : u1 k = t1 := by kernel_rfl
theorem g1 (k : Nat) : l1 k = u1 k := funext fun _ => funext fun _ => funext fun _ => cut_u _ _ _
def p1 (k : Nat) : T1 := t1
theorem o1 (k : Nat) : l1 k = p1 k := (Eq.trans (b := u1 k) (g1 k) (Eq.trans (b := t1) (e1 k) (by kernel_rfl)))
def t0 (f1 : T1) : T0 := fun (x0 : Option N0) (x1 : Int) => 
  (bindR (s_rope_Rope_Line (x0, (x1, ()))) fun r1 => (iteB (notB r1.1.2) (some (((((0 : Int), (0 : Int)), (0 : Int)), false), ())) (bindR (s_rope_Rope_Len (x0, ())) fun r2 => (bindR (s_rope_Rope_Line (x0, ((w64 (x1 + (1 : Int))), ()))) fun r3 => (iteB r3.1.2 (f1 x0 (((0 : Int), (0 : Int)), (0 : Int)) ((r1.1.1, (w64 (r3.1.1 - (1 : Int)))), (0 : Int))) (f1 x0 (((0 : Int), (0 : Int)), (0 : Int)) ((r1.1.1, r2.1), (0 : Int))))))))
theorem e0 (k : Nat) : u0 k = t0 (l1 k) := by kernel_rfl
theorem d0 {x1 y1 : T1} (h1 : x1 = y1) : t0 x1 = t0 y1 := by subst h1; rfl
def p0 (k : Nat) : T0 := t0 (p1 k)
theorem o0 (k : Nat) : u0 k = p0 k := (Eq.trans (b := t0 (l1 k)) (e0 k) (Eq.trans (b := t0 (p1 k)) (d0 (o1 k)) (by kernel_rfl)))
end place_find
def s_place_find (a : (Option N0) × ((Int) × (Unit))) : Option (((((Int) × (Int)) × (Int)) × (Bool)) × (Unit)) := place_find.p0 (fuel) a.1 a.2.1
noncomputable def F_place_find : FSpec cx.toNm := { ps := [.val (.agg (.ptr 0)), .val (.int .i64)], nres := 2, rt := (.pair (.agg (.pair (.agg (.pair (.int .i64) (.int .i64))) (.int .i64))) .bool), rm := .ro, f := s_place_find }
theorem ok_place_find : FnOk Try.prog F_place_find 101 := fn_of (hn := place_find.h) (E := place_find.E) cxOk (tysT _) (fs_cons ok_rope_Rope_Len (fs_cons ok_rope_Rope_Line (fs_cons ok_rope_Rope_Signs fs_nil))) follows Try.func101 (by kernel_rfl) (fun a r h => ⟨fuel, (congrFun (congrFun (place_find.o0 (fuel)) a.1) a.2.1).trans h⟩)
namespace runes_Cut
noncomputable def E : Env cx := { tys := tys, fs := fsOf [(128, F_runes_isFollower)] }
abbrev R := Option ((Int) × (Unit))
abbrev C := Exit → ST cx → R
noncomputable def b : Code := bodyC Try.f127
noncomputable def h : Hint := { vs := [0, 1, 4, 5, 9, 10], nil := [], cuts := [(4, ([0, 1, 9, 10], []), ([0], [])), (10, ([0, 1, 9, 10], []), ([0, 1, 9, 10], [])), (11, ([0], []), ([0], []))], ret := ([4], []), ords := [] }
noncomputable def K0 : C := fin (S := cx) E Try.f127.results.toList (.int .i64) .ro [] []
noncomputable def c0 : Code := subC b [1]
noncomputable def K1 (k : Nat) : C := outD h c0 K0
noncomputable def K2 (k : Nat) : C := seqC E h k c0 K0
noncomputable def c1 : Code := subC b [1, 1]
noncomputable def K3 (k : Nat) : C := outD h c1 (K1 k)
noncomputable def K4 (k : Nat) : C := seqC E h k c1 (K1 k)
noncomputable def c2 : Code := subC b [1, 0, 1]
noncomputable def K5 (k : Nat) : C := outD h c2 (K4 k)
noncomputable def K6 (k : Nat) : C := seqC E h k c2 (K4 k)
noncomputable def c3 : Code := subC b [1, 0, 1, 0, 1]
noncomputable def K7 (k : Nat) : C := outD h c3 (K5 k)
noncomputable def K8 (k : Nat) : C := seqC E h k c3 (K5 k)
noncomputable def c4 : Code := subC b [1, 1, 1]
noncomputable def K9 (k : Nat) : C := outD h c4 (K3 k)
noncomputable def K10 (k : Nat) : C := seqC E h k c4 (K3 k)
noncomputable def c5 : Code := subC b [1, 1, 0, 1]
noncomputable def K11 (k : Nat) : C := outD h c5 (K10 k)
noncomputable def K12 (k : Nat) : C := seqC E h k c5 (K10 k)
noncomputable def K13 (k : Nat) : C := blockK 0 (K11 k)
noncomputable def c6 : Code := subC b [1, 1, 0, 1, 0, 0]
noncomputable def K14 (k n1 : Nat) : C := loopD E h k c6 (K13 k) n1
noncomputable def c7 : Code := subC b [1, 1, 0, 1, 0, 0, 1]
noncomputable def K15 (k n1 : Nat) : C := outD h c7 (K14 k n1)
noncomputable def K16 (k n1 : Nat) : C := seqC E h k c7 (K14 k n1)
noncomputable def c8 : Code := subC b [1, 1, 0, 1, 0, 0, 1, 1]
noncomputable def K17 (k n1 : Nat) : C := outD h c8 (K15 k n1)
noncomputable def K18 (k n1 : Nat) : C := seqC E h k c8 (K15 k n1)
noncomputable def c9 : Code := subC b [1, 1, 0, 1, 0, 0, 1, 1, 1]
noncomputable def K19 (k n1 : Nat) : C := outD h c9 (K17 k n1)
noncomputable def K20 (k n1 : Nat) : C := seqC E h k c9 (K17 k n1)
noncomputable def K21 (k n1 : Nat) : C := blockK 1 (K20 k n1)
noncomputable def c10 : Code := subC b [1, 1, 0, 1, 0, 0, 1, 1, 0, 0, 1]
noncomputable def K22 (k n1 : Nat) : C := outD h c10 (K21 k n1)
noncomputable def K23 (k n1 : Nat) : C := seqC E h k c10 (K21 k n1)
noncomputable def c11 : Code := subC b [1, 1, 0, 1, 0, 0, 1, 1, 0, 0, 1, 1]
noncomputable def K24 (k n1 : Nat) : C := outD h c11 (K22 k n1)
noncomputable def K25 (k n1 : Nat) : C := seqC E h k c11 (K22 k n1)
noncomputable def c12 : Code := subC b [1, 1, 0, 1, 0, 0, 1, 1, 0, 0, 1, 0, 1]
noncomputable def K26 (k n1 : Nat) : C := outD h c12 (K25 k n1)
noncomputable def K27 (k n1 : Nat) : C := seqC E h k c12 (K25 k n1)
noncomputable def c13 : Code := subC b [1, 1, 0, 1, 0, 0, 1, 1, 0, 0, 1, 1, 1]
noncomputable def K28 (k n1 : Nat) : C := outD h c13 (K24 k n1)
noncomputable def K29 (k n1 : Nat) : C := seqC E h k c13 (K24 k n1)
noncomputable def c14 : Code := subC b [1, 1, 0, 1, 0, 0, 1, 1, 0, 0, 1, 1, 0, 1]
noncomputable def K30 (k n1 : Nat) : C := outD h c14 (K29 k n1)
noncomputable def K31 (k n1 : Nat) : C := seqC E h k c14 (K29 k n1)
noncomputable def c15 : Code := subC b [1, 1, 0, 1, 0, 0, 1, 1, 0, 0, 1, 1, 0, 1, 0, 1]
noncomputable def K32 (k n1 : Nat) : C := outD h c15 (K30 k n1)
noncomputable def K33 (k n1 : Nat) : C := seqC E h k c15 (K30 k n1)
noncomputable def c16 : Code := subC b [1, 1, 1, 1]
noncomputable def K34 (k : Nat) : C := outD h c16 (K9 k)
noncomputable def K35 (k : Nat) : C := seqC E h k c16 (K9 k)
abbrev T2 := (List UInt8) → Int → Int → Int → R
abbrev T3 := (List UInt8) → R
abbrev T1 := (List UInt8) → Int → Int → Int → R
abbrev T0 := (List UInt8) → Int → R
abbrev s2 : (List UInt8) → Int → Int → Int → ST cx := fun (x0 : List UInt8) (x1 x9 x10 : Int) => ({ vars := [(0, .v .str .ro x0), (1, .v (.int .i64) .ro x1), (9, .v (.int .i64) .ro x9), (10, .v (.int .i64) .ro x10)], scr := [], mems := [] } : ST cx)
noncomputable def u2 (k n1 : Nat) : T2 := fun (x0 : List UInt8) (x1 x9 x10 : Int) => uK (run E h k c9) (s2 x0 x1 x9 x10) (K19 k n1)
noncomputable abbrev l2 (k n1 : Nat) : T2 := fun (x0 : List UInt8) (x1 x9 x10 : Int) => cutK (run E h k c9) (s2 x0 x1 x9 x10) (K19 k n1)
abbrev s3 : (List UInt8) → ST cx := fun (x0 : List UInt8) => ({ vars := [(0, .v .str .ro x0)], scr := [], mems := [] } : ST cx)
noncomputable def u3 (k : Nat) : T3 := fun (x0 : List UInt8) => uK (run E h k c4) (s3 x0) (K9 k)
noncomputable abbrev l3 (k : Nat) : T3 := fun (x0 : List UInt8) => cutK (run E h k c4) (s3 x0) (K9 k)
abbrev s1 : (List UInt8) → Int → Int → Int → ST cx := fun (x0 : List UInt8) (x1 x9 x10 : Int) => ({ vars := [(0, .v .str .ro x0), (1, .v (.int .i64) .ro x1), (9, .v (.int .i64) .ro x9), (10, .v (.int .i64) .ro x10)], scr := [], mems := [] } : ST cx)
noncomputable def u1 (k n1 : Nat) : T1 := fun (x0 : List UInt8) (x1 x9 x10 : Int) => uK (loopL E h k c6 (K13 k) n1) (s1 x0 x1 x9 x10) ()
noncomputable abbrev l1 (k n1 : Nat) : T1 := fun (x0 : List UInt8) (x1 x9 x10 : Int) => cutK (loopL E h k c6 (K13 k) n1) (s1 x0 x1 x9 x10) ()
noncomputable def u0 (k : Nat) : T0 := fun (x0 : List UInt8) (x1 : Int) => runOf (S := cx) E h k Try.f127 [.val .str, .val (.int .i64)] (.int .i64) .ro (x0, x1, ())
def t2 (f1 : T1) : T2 := fun (x0 : List UInt8) (x1 x9 x10 : Int) => 
  (f1 x0 x1 x9 (w64 (x10 + (1 : Int))))
theorem e2 (k n1 : Nat) : u2 k n1 = t2 (l1 k n1) := by kernel_rfl
theorem g2 (k n1 : Nat) : l2 k n1 = u2 k n1 := funext fun _ => funext fun _ => funext fun _ => funext fun _ => cut_u _ _ _
theorem d2 {x1 y1 : T1} (h1 : x1 = y1) : t2 x1 = t2 y1 := by subst h1; rfl
def p2 (k : Nat) (a1 : T1) : T2 := t2 a1
theorem o2 (k n1 : Nat) (a1 : T1) (h1 : l1 k n1 = a1) : l2 k n1 = p2 k a1 := (Eq.trans (b := u2 k n1) (g2 k n1) (Eq.trans (b := t2 (l1 k n1)) (e2 k n1) (Eq.trans (b := t2 a1) (d2 h1) (by kernel_rfl))))
def t3 : T3 := fun (x0 : List UInt8) => 
  (some (((List.length x0 : Nat) : Int), ()))
theorem e3 (k : Nat) : u3 k = t3 := by kernel_rfl
theorem g3 (k : Nat) : l3 k = u3 k := funext fun _ => cut_u _ _ _
def p3 (k : Nat) : T3 := t3
theorem o3 (k : Nat) : l3 k = p3 k := (Eq.trans (b := u3 k) (g3 k) (Eq.trans (b := t3) (e3 k) (by kernel_rfl)))
def t1 (f2 : T2) (f3 : T3) : T1 := fun (x0 : List UInt8) (x1 x9 x10 : Int) => 
  (iteB (decide (x10 < x9)) (withinR x10 (List.length x0) fun q1 => (bindR (s_runes_isFollower ((byteAt x0 q1), ())) fun r2 => (iteB r2.1 (f2 x0 x1 x9 x10) (iteB (decide (x1 = (0 : Int))) (some (x10, ())) (f2 x0 (w64 (x1 - (1 : Int))) x9 x10))))) (f3 x0))
theorem e1 (k n1 : Nat) : u1 k (n1 + 1) = t1 (l2 k n1) (l3 k) := by kernel_rfl
theorem g1 (k n1 : Nat) : l1 k (n1 + 1) = u1 k (n1 + 1) := funext fun _ => funext fun _ => funext fun _ => funext fun _ => cut_u _ _ _
theorem d1 {x2 y2 : T2} {x3 y3 : T3} (h2 : x2 = y2) (h3 : x3 = y3) : t1 x2 x3 = t1 y2 y3 := by subst h2; subst h3; rfl
def p1 (k : Nat) : Nat → T1
  | 0 => fun _ _ _ _ => none
  | n1 + 1 => t1 (p2 k (p1 k n1)) (p3 k)
theorem o1 (k : Nat) : ∀ n1, l1 k n1 = p1 k n1 := by
  intro n1
  induction n1 with
  | zero => kernel_rfl
  | succ n1 ih => exact (Eq.trans (b := u1 k (n1 + 1)) (g1 k n1) (Eq.trans (b := t1 (l2 k n1) (l3 k)) (e1 k n1) (Eq.trans (b := t1 (p2 k (p1 k n1)) (p3 k)) (d1 (o2 k n1 (p1 k n1) ih) (o3 k)) (by kernel_rfl))))
def t0 (f1 : T1) : T0 := fun (x0 : List UInt8) (x1 : Int) => 
  (iteB (decide (x1 < (0 : Int))) (some ((0 : Int), ())) (f1 x0 x1 ((List.length x0 : Nat) : Int) (0 : Int)))
theorem e0 (k : Nat) : u0 k = t0 (l1 k k) := by kernel_rfl
theorem d0 {x1 y1 : T1} (h1 : x1 = y1) : t0 x1 = t0 y1 := by subst h1; rfl
def p0 (k : Nat) : T0 := t0 (p1 k k)
theorem o0 (k : Nat) : u0 k = p0 k := (Eq.trans (b := t0 (l1 k k)) (e0 k) (Eq.trans (b := t0 (p1 k k)) (d0 (o1 k k)) (by kernel_rfl)))
end runes_Cut
def s_runes_Cut (a : (List UInt8) × ((Int) × (Unit))) : Option ((Int) × (Unit)) := runes_Cut.p0 (fuel) a.1 a.2.1
noncomputable def F_runes_Cut : FSpec cx.toNm := { ps := [.val .str, .val (.int .i64)], nres := 1, rt := (.int .i64), rm := .ro, f := s_runes_Cut }
theorem ok_runes_Cut : FnOk Try.prog F_runes_Cut 127 := fn_of (hn := runes_Cut.h) (E := runes_Cut.E) cxOk (tysT _) (fs_cons ok_runes_isFollower fs_nil) follows Try.func127 (by kernel_rfl) (fun a r h => ⟨fuel, (congrFun (congrFun (runes_Cut.o0 (fuel)) a.1) a.2.1).trans h⟩)
namespace place_line_at
noncomputable def E : Env cx := { tys := tys, fs := fsOf [(47, F_rope_Rope_Slice), (127, F_runes_Cut)] }
abbrev R := Option ((Int) × (Unit))
abbrev C := Exit → ST cx → R
noncomputable def b : Code := bodyC Try.f102
noncomputable def h : Hint := { vs := [0, 1, 2, 3, 4, 6, 7], nil := [], cuts := [], ret := ([6], [3, 4]), ords := [] }
noncomputable def K0 : C := fin (S := cx) E Try.f102.results.toList (.int .i64) .ro [] []
noncomputable def c0 : Code := subC b [1]
noncomputable def K1 (k : Nat) : C := outD h c0 K0
noncomputable def K2 (k : Nat) : C := seqC E h k c0 K0
noncomputable def c1 : Code := subC b [1, 1]
noncomputable def K3 (k : Nat) : C := outD h c1 (K1 k)
noncomputable def K4 (k : Nat) : C := seqC E h k c1 (K1 k)
noncomputable def c2 : Code := subC b [1, 1, 1]
noncomputable def K5 (k : Nat) : C := outD h c2 (K3 k)
noncomputable def K6 (k : Nat) : C := seqC E h k c2 (K3 k)
abbrev T0 := (((Int) × (Int)) × (Int)) → (Option N0) → Int → R
noncomputable def u0 (k : Nat) : T0 := fun (x0 : ((Int) × (Int)) × (Int)) (x1 : Option N0) (x2 : Int) => runOf (S := cx) E h k Try.f102 [.val (.agg (.pair (.agg (.pair (.int .i64) (.int .i64))) (.int .i64))), .val (.agg (.ptr 0)), .val (.int .i64)] (.int .i64) .ro (x0, x1, x2, ())
def t0 : T0 := fun (x0 : ((Int) × (Int)) × (Int)) (x1 : Option N0) (x2 : Int) => 
  (bindR (s_rope_Rope_Slice (x1, (x0.1.1, (x0.1.2, ())))) fun r1 => (bindR (s_runes_Cut (r1.1.1, (x2, ()))) fun r2 => (some ((w64 (x0.1.1 + r2.1)), ()))))
theorem e0 (k : Nat) : u0 k = t0 := by kernel_rfl
def p0 (k : Nat) : T0 := t0
theorem o0 (k : Nat) : u0 k = p0 k := (Eq.trans (b := t0) (e0 k) (by kernel_rfl))
end place_line_at
def s_place_line_at (a : (((Int) × (Int)) × (Int)) × ((Option N0) × ((Int) × (Unit)))) : Option ((Int) × (Unit)) := place_line_at.p0 (fuel) a.1 a.2.1 a.2.2.1
noncomputable def F_place_line_at : FSpec cx.toNm := { ps := [.val (.agg (.pair (.agg (.pair (.int .i64) (.int .i64))) (.int .i64))), .val (.agg (.ptr 0)), .val (.int .i64)], nres := 1, rt := (.int .i64), rm := .ro, f := s_place_line_at }
theorem ok_place_line_at : FnOk Try.prog F_place_line_at 102 := fn_of (hn := place_line_at.h) (E := place_line_at.E) cxOk (tysT _) (fs_cons ok_rope_Rope_Slice (fs_cons ok_runes_Cut fs_nil)) follows Try.func102 (by kernel_rfl) (fun a r h => ⟨fuel, (congrFun (congrFun (congrFun (place_line_at.o0 (fuel)) a.1) a.2.1) a.2.2.1).trans h⟩)
namespace place_At
noncomputable def E : Env cx := { tys := tys, fs := fsOf [(101, F_place_find), (102, F_place_line_at)] }
abbrev R := Option (((Int) × (Int)) × (Unit))
abbrev C := Exit → ST cx → R
noncomputable def b : Code := bodyC Try.f51
noncomputable def h : Hint := { vs := [0, 1, 2, 3, 4, 5, 6, 7], nil := [], cuts := [(3, ([2, 3, 6, 28], [2, 3, 6]), ([2, 3, 6], [2, 3, 6])), (4, ([2, 3, 6], [2, 3, 6]), ([2, 3, 6], [2, 3, 6]))], ret := ([4, 5], [2, 3, 6]), ords := [] }
noncomputable def K0 : C := fin (S := cx) E Try.f51.results.toList (.pair (.int .i64) (.int .i64)) .ro [] []
noncomputable def c0 : Code := subC b [1]
noncomputable def K1 (k : Nat) : C := outD h c0 K0
noncomputable def K2 (k : Nat) : C := seqC E h k c0 K0
noncomputable def c1 : Code := subC b [1, 1]
noncomputable def K3 (k : Nat) : C := outD h c1 (K1 k)
noncomputable def K4 (k : Nat) : C := seqC E h k c1 (K1 k)
noncomputable def c2 : Code := subC b [1, 1, 1]
noncomputable def K5 (k : Nat) : C := outD h c2 (K3 k)
noncomputable def K6 (k : Nat) : C := seqC E h k c2 (K3 k)
noncomputable def c3 : Code := subC b [1, 1, 0, 1]
noncomputable def K7 (k : Nat) : C := outD h c3 (K6 k)
noncomputable def K8 (k : Nat) : C := seqC E h k c3 (K6 k)
noncomputable def c4 : Code := subC b [1, 1, 0, 1, 0, 1]
noncomputable def K9 (k : Nat) : C := outD h c4 (K7 k)
noncomputable def K10 (k : Nat) : C := seqC E h k c4 (K7 k)
noncomputable def c5 : Code := subC b [1, 1, 1, 1]
noncomputable def K11 (k : Nat) : C := outD h c5 (K5 k)
noncomputable def K12 (k : Nat) : C := seqC E h k c5 (K5 k)
abbrev T2 := (Option N0) → ((Int) × (Int)) → (((Int) × (Int)) × (Int)) → R
abbrev T1 := Bool → (Option N0) → ((Int) × (Int)) → (((Int) × (Int)) × (Int)) → R
abbrev T0 := (Option N0) → ((Int) × (Int)) → R
abbrev s2 : (Option N0) → ((Int) × (Int)) → (((Int) × (Int)) × (Int)) → ST cx := fun (m2 : Option N0) (m3 : (Int) × (Int)) (m6 : ((Int) × (Int)) × (Int)) => ({ vars := [(2, .addr (.mem 2) []), (3, .addr (.mem 3) []), (6, .addr (.mem 6) [])], scr := [], mems := [(2, ⟨(.agg (.ptr 0)), .ro, m2⟩), (3, ⟨(.agg (.pair (.int .i64) (.int .i64))), .ro, m3⟩), (6, ⟨(.agg (.pair (.agg (.pair (.int .i64) (.int .i64))) (.int .i64))), .ro, m6⟩)] } : ST cx)
noncomputable def u2 (k : Nat) : T2 := fun (m2 : Option N0) (m3 : (Int) × (Int)) (m6 : ((Int) × (Int)) × (Int)) => uK (run E h k c2) (s2 m2 m3 m6) (K5 k)
noncomputable abbrev l2 (k : Nat) : T2 := fun (m2 : Option N0) (m3 : (Int) × (Int)) (m6 : ((Int) × (Int)) × (Int)) => cutK (run E h k c2) (s2 m2 m3 m6) (K5 k)
abbrev s1 : Bool → (Option N0) → ((Int) × (Int)) → (((Int) × (Int)) × (Int)) → ST cx := fun (x28 : Bool) (m2 : Option N0) (m3 : (Int) × (Int)) (m6 : ((Int) × (Int)) × (Int)) => ({ vars := [(2, .addr (.mem 2) []), (3, .addr (.mem 3) []), (6, .addr (.mem 6) []), (28, .v .bool .ro x28)], scr := [], mems := [(2, ⟨(.agg (.ptr 0)), .ro, m2⟩), (3, ⟨(.agg (.pair (.int .i64) (.int .i64))), .ro, m3⟩), (6, ⟨(.agg (.pair (.agg (.pair (.int .i64) (.int .i64))) (.int .i64))), .ro, m6⟩)] } : ST cx)
noncomputable def u1 (k : Nat) : T1 := fun (x28 : Bool) (m2 : Option N0) (m3 : (Int) × (Int)) (m6 : ((Int) × (Int)) × (Int)) => uK (run E h k c3) (s1 x28 m2 m3 m6) (K7 k)
noncomputable abbrev l1 (k : Nat) : T1 := fun (x28 : Bool) (m2 : Option N0) (m3 : (Int) × (Int)) (m6 : ((Int) × (Int)) × (Int)) => cutK (run E h k c3) (s1 x28 m2 m3 m6) (K7 k)
noncomputable def u0 (k : Nat) : T0 := fun (x0 : Option N0) (x1 : (Int) × (Int)) => runOf (S := cx) E h k Try.f51 [.val (.agg (.ptr 0)), .val (.agg (.pair (.int .i64) (.int .i64)))] (.pair (.int .i64) (.int .i64)) .ro (x0, x1, ())
def t2 : T2 := fun (m2 : Option N0) (m3 : (Int) × (Int)) (m6 : ((Int) × (Int)) × (Int)) => 
  (bindR (s_place_line_at (m6, (m2, (m3.2, ())))) fun r2 => (some ((r2.1, (0 : Int)), ())))
theorem e2 (k : Nat) : u2 k = t2 := by kernel_rfl
theorem g2 (k : Nat) : l2 k = u2 k := funext fun _ => funext fun _ => funext fun _ => cut_u _ _ _
def p2 (k : Nat) : T2 := t2
theorem o2 (k : Nat) : l2 k = p2 k := (Eq.trans (b := u2 k) (g2 k) (Eq.trans (b := t2) (e2 k) (by kernel_rfl)))
def t1 (f2 : T2) : T1 := fun (x28 : Bool) (m2 : Option N0) (m3 : (Int) × (Int)) (m6 : ((Int) × (Int)) × (Int)) => 
  (iteB x28 (some (((0 : Int), (3 : Int)), ())) (f2 m2 m3 m6))
theorem e1 (k : Nat) : u1 k = t1 (l2 k) := by kernel_rfl
theorem g1 (k : Nat) : l1 k = u1 k := funext fun _ => funext fun _ => funext fun _ => funext fun _ => cut_u _ _ _
theorem d1 {x2 y2 : T2} (h2 : x2 = y2) : t1 x2 = t1 y2 := by subst h2; rfl
def p1 (k : Nat) : T1 := t1 (p2 k)
theorem o1 (k : Nat) : l1 k = p1 k := (Eq.trans (b := u1 k) (g1 k) (Eq.trans (b := t1 (l2 k)) (e1 k) (Eq.trans (b := t1 (p2 k)) (d1 (o2 k)) (by kernel_rfl))))
def t0 (f1 : T1) : T0 := fun (x0 : Option N0) (x1 : (Int) × (Int)) => 
  (bindR (s_place_find (x0, (x1.1, ()))) fun r1 => (iteB (notB r1.1.2) (f1 true x0 x1 r1.1.1) (iteB (decide (x1.2 < (0 : Int))) (f1 true x0 x1 r1.1.1) (f1 (decide (r1.1.1.2 < x1.2)) x0 x1 r1.1.1))))
theorem e0 (k : Nat) : u0 k = t0 (l1 k) := by kernel_rfl
theorem d0 {x1 y1 : T1} (h1 : x1 = y1) : t0 x1 = t0 y1 := by subst h1; rfl
def p0 (k : Nat) : T0 := t0 (p1 k)
theorem o0 (k : Nat) : u0 k = p0 k := (Eq.trans (b := t0 (l1 k)) (e0 k) (Eq.trans (b := t0 (p1 k)) (d0 (o1 k)) (by kernel_rfl)))
end place_At
def s_place_At (a : (Option N0) × (((Int) × (Int)) × (Unit))) : Option (((Int) × (Int)) × (Unit)) := place_At.p0 (fuel) a.1 a.2.1
noncomputable def F_place_At : FSpec cx.toNm := { ps := [.val (.agg (.ptr 0)), .val (.agg (.pair (.int .i64) (.int .i64)))], nres := 2, rt := (.pair (.int .i64) (.int .i64)), rm := .ro, f := s_place_At }
theorem ok_place_At : FnOk Try.prog F_place_At 51 := fn_of (hn := place_At.h) (E := place_At.E) cxOk (tysT _) (fs_cons ok_place_find (fs_cons ok_place_line_at fs_nil)) follows Try.func51 (by kernel_rfl) (fun a r h => ⟨fuel, (congrFun (congrFun (place_At.o0 (fuel)) a.1) a.2.1).trans h⟩)
namespace place_Lines
noncomputable def E : Env cx := { tys := tys, fs := fsOf [(45, F_rope_Rope_Len), (86, F_rope_Rope_Lines)] }
abbrev R := Option ((Int) × (Unit))
abbrev C := Exit → ST cx → R
noncomputable def b : Code := bodyC Try.f61
noncomputable def h : Hint := { vs := [0, 1, 2], nil := [], cuts := [], ret := ([2], [1]), ords := [] }
noncomputable def K0 : C := fin (S := cx) E Try.f61.results.toList (.int .i64) .ro [] []
noncomputable def c0 : Code := subC b [1]
noncomputable def K1 (k : Nat) : C := outD h c0 K0
noncomputable def K2 (k : Nat) : C := seqC E h k c0 K0
noncomputable def c1 : Code := subC b [1, 1]
noncomputable def K3 (k : Nat) : C := outD h c1 (K1 k)
noncomputable def K4 (k : Nat) : C := seqC E h k c1 (K1 k)
abbrev T0 := (Option N0) → R
noncomputable def u0 (k : Nat) : T0 := fun (x0 : Option N0) => runOf (S := cx) E h k Try.f61 [.val (.agg (.ptr 0))] (.int .i64) .ro (x0, ())
def t0 : T0 := fun (x0 : Option N0) => 
  (bindR (s_rope_Rope_Len (x0, ())) fun r1 => (bindR (s_rope_Rope_Lines (x0, (r1.1, ()))) fun r2 => (some ((w64 (r2.1 + (1 : Int))), ()))))
theorem e0 (k : Nat) : u0 k = t0 := by kernel_rfl
def p0 (k : Nat) : T0 := t0
theorem o0 (k : Nat) : u0 k = p0 k := (Eq.trans (b := t0) (e0 k) (by kernel_rfl))
end place_Lines
def s_place_Lines (a : (Option N0) × (Unit)) : Option ((Int) × (Unit)) := place_Lines.p0 (fuel) a.1
noncomputable def F_place_Lines : FSpec cx.toNm := { ps := [.val (.agg (.ptr 0))], nres := 1, rt := (.int .i64), rm := .ro, f := s_place_Lines }
theorem ok_place_Lines : FnOk Try.prog F_place_Lines 61 := fn_of (hn := place_Lines.h) (E := place_Lines.E) cxOk (tysT _) (fs_cons ok_rope_Rope_Len (fs_cons ok_rope_Rope_Lines fs_nil)) follows Try.func61 (by kernel_rfl) (fun a r h => ⟨fuel, (congrFun (place_Lines.o0 (fuel)) a.1).trans h⟩)
namespace place_Near
noncomputable def E : Env cx := { tys := tys, fs := fsOf [(45, F_rope_Rope_Len), (101, F_place_find), (102, F_place_line_at)] }
abbrev R := Option ((Int) × (Unit))
abbrev C := Exit → ST cx → R
noncomputable def b : Code := bodyC Try.f99
noncomputable def h : Hint := { vs := [0, 1, 2, 3, 4, 5, 6], nil := [], cuts := [], ret := ([4], [2, 3, 5]), ords := [] }
noncomputable def K0 : C := fin (S := cx) E Try.f99.results.toList (.int .i64) .ro [] []
noncomputable def c0 : Code := subC b [1]
noncomputable def K1 (k : Nat) : C := outD h c0 K0
noncomputable def K2 (k : Nat) : C := seqC E h k c0 K0
noncomputable def c1 : Code := subC b [1, 1]
noncomputable def K3 (k : Nat) : C := outD h c1 (K1 k)
noncomputable def K4 (k : Nat) : C := seqC E h k c1 (K1 k)
noncomputable def c2 : Code := subC b [1, 0, 1]
noncomputable def K5 (k : Nat) : C := outD h c2 (K4 k)
noncomputable def K6 (k : Nat) : C := seqC E h k c2 (K4 k)
noncomputable def c3 : Code := subC b [1, 0, 1, 0, 1]
noncomputable def K7 (k : Nat) : C := outD h c3 (K5 k)
noncomputable def K8 (k : Nat) : C := seqC E h k c3 (K5 k)
noncomputable def c4 : Code := subC b [1, 1, 1]
noncomputable def K9 (k : Nat) : C := outD h c4 (K3 k)
noncomputable def K10 (k : Nat) : C := seqC E h k c4 (K3 k)
noncomputable def c5 : Code := subC b [1, 1, 1, 1]
noncomputable def K11 (k : Nat) : C := outD h c5 (K9 k)
noncomputable def K12 (k : Nat) : C := seqC E h k c5 (K9 k)
noncomputable def c6 : Code := subC b [1, 1, 1, 0, 1]
noncomputable def K13 (k : Nat) : C := outD h c6 (K12 k)
noncomputable def K14 (k : Nat) : C := seqC E h k c6 (K12 k)
noncomputable def c7 : Code := subC b [1, 1, 1, 0, 1, 0, 1]
noncomputable def K15 (k : Nat) : C := outD h c7 (K13 k)
noncomputable def K16 (k : Nat) : C := seqC E h k c7 (K13 k)
noncomputable def c8 : Code := subC b [1, 1, 1, 1, 1]
noncomputable def K17 (k : Nat) : C := outD h c8 (K11 k)
noncomputable def K18 (k : Nat) : C := seqC E h k c8 (K11 k)
abbrev T0 := (Option N0) → ((Int) × (Int)) → R
noncomputable def u0 (k : Nat) : T0 := fun (x0 : Option N0) (x1 : (Int) × (Int)) => runOf (S := cx) E h k Try.f99 [.val (.agg (.ptr 0)), .val (.agg (.pair (.int .i64) (.int .i64)))] (.int .i64) .ro (x0, x1, ())
def t0 : T0 := fun (x0 : Option N0) (x1 : (Int) × (Int)) => 
  (iteB (decide (x1.1 < (0 : Int))) (some ((0 : Int), ())) (bindR (s_place_find (x0, (x1.1, ()))) fun r1 => (iteB (notB r1.1.2) (bindR (s_rope_Rope_Len (x0, ())) fun r2 => (some (r2.1, ()))) (bindR (s_place_line_at (r1.1.1, (x0, ((minI (maxI x1.2 (0 : Int)) r1.1.1.2), ())))) fun r3 => (some (r3.1, ()))))))
theorem e0 (k : Nat) : u0 k = t0 := by kernel_rfl
def p0 (k : Nat) : T0 := t0
theorem o0 (k : Nat) : u0 k = p0 k := (Eq.trans (b := t0) (e0 k) (by kernel_rfl))
end place_Near
def s_place_Near (a : (Option N0) × (((Int) × (Int)) × (Unit))) : Option ((Int) × (Unit)) := place_Near.p0 (fuel) a.1 a.2.1
noncomputable def F_place_Near : FSpec cx.toNm := { ps := [.val (.agg (.ptr 0)), .val (.agg (.pair (.int .i64) (.int .i64)))], nres := 1, rt := (.int .i64), rm := .ro, f := s_place_Near }
theorem ok_place_Near : FnOk Try.prog F_place_Near 99 := fn_of (hn := place_Near.h) (E := place_Near.E) cxOk (tysT _) (fs_cons ok_rope_Rope_Len (fs_cons ok_place_find (fs_cons ok_place_line_at fs_nil))) follows Try.func99 (by kernel_rfl) (fun a r h => ⟨fuel, (congrFun (congrFun (place_Near.o0 (fuel)) a.1) a.2.1).trans h⟩)
namespace place_Up
noncomputable def E : Env cx := { tys := tys, fs := fsOf [(50, F_place_Mark), (61, F_place_Lines), (99, F_place_Near)] }
abbrev R := Option (((Int) × (Int)) × (Unit))
abbrev C := Exit → ST cx → R
noncomputable def b : Code := bodyC Try.f53
noncomputable def h : Hint := { vs := [0, 1, 2, 3, 6, 7, 8, 9, 10], nil := [], cuts := [], ret := ([6, 7], [3, 8]), ords := [] }
noncomputable def K0 : C := fin (S := cx) E Try.f53.results.toList (.pair (.int .i64) (.int .i64)) .ro [] []
noncomputable def c0 : Code := subC b [1]
noncomputable def K1 (k : Nat) : C := outD h c0 K0
noncomputable def K2 (k : Nat) : C := seqC E h k c0 K0
noncomputable def c1 : Code := subC b [1, 1]
noncomputable def K3 (k : Nat) : C := outD h c1 (K1 k)
noncomputable def K4 (k : Nat) : C := seqC E h k c1 (K1 k)
noncomputable def c2 : Code := subC b [1, 1, 1]
noncomputable def K5 (k : Nat) : C := outD h c2 (K3 k)
noncomputable def K6 (k : Nat) : C := seqC E h k c2 (K3 k)
noncomputable def c3 : Code := subC b [1, 1, 0, 1]
noncomputable def K7 (k : Nat) : C := outD h c3 (K6 k)
noncomputable def K8 (k : Nat) : C := seqC E h k c3 (K6 k)
noncomputable def c4 : Code := subC b [1, 1, 0, 1, 0, 1]
noncomputable def K9 (k : Nat) : C := outD h c4 (K7 k)
noncomputable def K10 (k : Nat) : C := seqC E h k c4 (K7 k)
noncomputable def c5 : Code := subC b [1, 1, 1, 1]
noncomputable def K11 (k : Nat) : C := outD h c5 (K5 k)
noncomputable def K12 (k : Nat) : C := seqC E h k c5 (K5 k)
noncomputable def c6 : Code := subC b [1, 1, 1, 1, 1]
noncomputable def K13 (k : Nat) : C := outD h c6 (K11 k)
noncomputable def K14 (k : Nat) : C := seqC E h k c6 (K11 k)
noncomputable def c7 : Code := subC b [1, 1, 1, 1, 1, 1]
noncomputable def K15 (k : Nat) : C := outD h c7 (K13 k)
noncomputable def K16 (k : Nat) : C := seqC E h k c7 (K13 k)
abbrev T0 := (Option N0) → Int → Int → R
noncomputable def u0 (k : Nat) : T0 := fun (x0 : Option N0) (x1 x2 : Int) => runOf (S := cx) E h k Try.f53 [.val (.agg (.ptr 0)), .val (.int .i64), .val (.int .i64)] (.pair (.int .i64) (.int .i64)) .ro (x0, x1, x2, ())
def t0 : T0 := fun (x0 : Option N0) (x1 x2 : Int) => 
  (bindR (s_place_Mark (x0, (x1, ()))) fun r1 => (iteB (!decide (r1.1.2 = (0 : Int))) (some (((0 : Int), r1.1.2), ())) (bindR (s_place_Lines (x0, ())) fun r2 => (bindR (s_place_Near (x0, (((w64 (r1.1.1.1 - (minI (maxI x2 (negI .i64 r2.1)) r2.1))), r1.1.1.2), ()))) fun r3 => (some ((r3.1, (0 : Int)), ()))))))
theorem e0 (k : Nat) : u0 k = t0 := by kernel_rfl
def p0 (k : Nat) : T0 := t0
theorem o0 (k : Nat) : u0 k = p0 k := (Eq.trans (b := t0) (e0 k) (by kernel_rfl))
end place_Up
def s_place_Up (a : (Option N0) × ((Int) × ((Int) × (Unit)))) : Option (((Int) × (Int)) × (Unit)) := place_Up.p0 (fuel) a.1 a.2.1 a.2.2.1
noncomputable def F_place_Up : FSpec cx.toNm := { ps := [.val (.agg (.ptr 0)), .val (.int .i64), .val (.int .i64)], nres := 2, rt := (.pair (.int .i64) (.int .i64)), rm := .ro, f := s_place_Up }
theorem ok_place_Up : FnOk Try.prog F_place_Up 53 := fn_of (hn := place_Up.h) (E := place_Up.E) cxOk (tysT _) (fs_cons ok_place_Mark (fs_cons ok_place_Lines (fs_cons ok_place_Near fs_nil))) follows Try.func53 (by kernel_rfl) (fun a r h => ⟨fuel, (congrFun (congrFun (congrFun (place_Up.o0 (fuel)) a.1) a.2.1) a.2.2.1).trans h⟩)
namespace law03_alive
noncomputable def E : Env cx := { tys := tys, fs := fsOf [(40, F_rope_Of), (50, F_place_Mark), (51, F_place_At), (53, F_place_Up), (99, F_place_Near)] }
abbrev R := Option ((Bool) × (Unit))
abbrev C := Exit → ST cx → R
noncomputable def b : Code := bodyC Try.f48
noncomputable def h : Hint := { vs := [0, 1, 3, 4, 5, 6, 7, 8], nil := [], cuts := [], ret := ([0], [1, 3]), ords := [] }
noncomputable def K0 : C := fin (S := cx) E Try.f48.results.toList .bool .ro [] []
noncomputable def c0 : Code := subC b [1]
noncomputable def K1 (k : Nat) : C := outD h c0 K0
noncomputable def K2 (k : Nat) : C := seqC E h k c0 K0
noncomputable def c1 : Code := subC b [1, 1]
noncomputable def K3 (k : Nat) : C := outD h c1 (K1 k)
noncomputable def K4 (k : Nat) : C := seqC E h k c1 (K1 k)
noncomputable def c2 : Code := subC b [1, 1, 1]
noncomputable def K5 (k : Nat) : C := outD h c2 (K3 k)
noncomputable def K6 (k : Nat) : C := seqC E h k c2 (K3 k)
noncomputable def c3 : Code := subC b [1, 1, 1, 1]
noncomputable def K7 (k : Nat) : C := outD h c3 (K5 k)
noncomputable def K8 (k : Nat) : C := seqC E h k c3 (K5 k)
noncomputable def c4 : Code := subC b [1, 1, 1, 1, 1]
noncomputable def K9 (k : Nat) : C := outD h c4 (K7 k)
noncomputable def K10 (k : Nat) : C := seqC E h k c4 (K7 k)
noncomputable def c5 : Code := subC b [1, 1, 1, 1, 1, 1]
noncomputable def K11 (k : Nat) : C := outD h c5 (K9 k)
noncomputable def K12 (k : Nat) : C := seqC E h k c5 (K9 k)
abbrev T0 := R
noncomputable def u0 (k : Nat) : T0 := runOf (S := cx) E h k Try.f48 [] .bool .ro (())
def t0 : T0 := 
  (bindR (s_rope_Of (([97, 10, 195, 169, 98] : List UInt8), ())) fun r1 => (bindR (s_place_Mark (r1.1.1, ((5 : Int), ()))) fun r2 => (bindR (s_place_At (r1.1.1, (((1 : Int), (1 : Int)), ()))) fun r3 => (bindR (s_place_Up (r1.1.1, ((5 : Int), ((1 : Int), ())))) fun r4 => (iteB (decide (r2.1.2 = (0 : Int))) (iteB (decide (r3.1.2 = (0 : Int))) (iteB (decide (r4.1.2 = (0 : Int))) (iteB ((decide (r2.1.1.1 = (1 : Int))) && (decide (r2.1.1.2 = (2 : Int)))) (iteB (decide (r3.1.1 = (4 : Int))) (bindR (s_place_Near (r1.1.1, (((9 : Int), (0 : Int)), ()))) fun r5 => (iteB (decide (r5.1 = (5 : Int))) (bindR (s_place_Near (r1.1.1, (((0 : Int), (9 : Int)), ()))) fun r6 => (iteB (decide (r6.1 = (1 : Int))) (some ((decide (r4.1.1 = (1 : Int))), ())) (some (false, ())))) (some (false, ())))) (some (false, ()))) (some (false, ()))) (some (false, ()))) (some (false, ()))) (some (false, ())))))))
theorem e0 (k : Nat) : u0 k = t0 := by kernel_rfl
def p0 (k : Nat) : T0 := t0
theorem o0 (k : Nat) : u0 k = p0 k := (Eq.trans (b := t0) (e0 k) (by kernel_rfl))
end law03_alive
def s_law03_alive (a : Unit) : Option ((Bool) × (Unit)) := law03_alive.p0 (fuel)
noncomputable def F_law03_alive : FSpec cx.toNm := { ps := [], nres := 1, rt := .bool, rm := .ro, f := s_law03_alive }
theorem ok_law03_alive : FnOk Try.prog F_law03_alive 48 := fn_of (hn := law03_alive.h) (E := law03_alive.E) cxOk (tysT _) (fs_cons ok_rope_Of (fs_cons ok_place_Mark (fs_cons ok_place_At (fs_cons ok_place_Up (fs_cons ok_place_Near fs_nil))))) follows Try.func48 (by kernel_rfl) (fun a r h => ⟨fuel, (law03_alive.o0 (fuel)).trans h⟩)
namespace ref01_Sign
noncomputable def E : Env cx := { tys := tys, fs := fsOf [] }
abbrev R := Option ((Bool) × (Unit))
abbrev C := Exit → ST cx → R
noncomputable def b : Code := bodyC Try.f100
noncomputable def h : Hint := { vs := [0, 2], nil := [], cuts := [], ret := ([2], []), ords := [] }
noncomputable def K0 : C := fin (S := cx) E Try.f100.results.toList .bool .ro [] []
noncomputable def c0 : Code := subC b [1]
noncomputable def K1 (k : Nat) : C := outD h c0 K0
noncomputable def K2 (k : Nat) : C := seqC E h k c0 K0
noncomputable def c1 : Code := subC b [1, 1]
noncomputable def K3 (k : Nat) : C := outD h c1 (K1 k)
noncomputable def K4 (k : Nat) : C := seqC E h k c1 (K1 k)
abbrev T0 := Int → R
noncomputable def u0 (k : Nat) : T0 := fun (x0 : Int) => runOf (S := cx) E h k Try.f100 [.val (.int .i64)] .bool .ro (x0, ())
def t0 : T0 := fun (x0 : Int) => 
  (iteB (decide ((0 : Int) ≤ x0)) (iteB (decide (x0 < (1114112 : Int))) (iteB (decide ((55296 : Int) ≤ x0)) (some ((notB (decide (x0 ≤ (57343 : Int)))), ())) (some (true, ()))) (some (false, ()))) (some (false, ())))
theorem e0 (k : Nat) : u0 k = t0 := by kernel_rfl
def p0 (k : Nat) : T0 := t0
theorem o0 (k : Nat) : u0 k = p0 k := (Eq.trans (b := t0) (e0 k) (by kernel_rfl))
end ref01_Sign
def s_ref01_Sign (a : (Int) × (Unit)) : Option ((Bool) × (Unit)) := ref01_Sign.p0 (fuel) a.1
noncomputable def F_ref01_Sign : FSpec cx.toNm := { ps := [.val (.int .i64)], nres := 1, rt := .bool, rm := .ro, f := s_ref01_Sign }
theorem ok_ref01_Sign : FnOk Try.prog F_ref01_Sign 100 := fn_of (hn := ref01_Sign.h) (E := ref01_Sign.E) cxOk (tysT _) fs_nil follows Try.func100 (by kernel_rfl) (fun a r h => ⟨fuel, (congrFun (ref01_Sign.o0 (fuel)) a.1).trans h⟩)
namespace ref01_Bytes
noncomputable def E : Env cx := { tys := tys, fs := fsOf [(100, F_ref01_Sign)] }
abbrev R := Option ((List UInt8) × (Unit))
abbrev C := Exit → ST cx → R
noncomputable def b : Code := bodyC Try.f49
noncomputable def h : Hint := { vs := [0, 2], nil := [], cuts := [], ret := ([2], []), ords := [] }
noncomputable def K0 : C := fin (S := cx) E Try.f49.results.toList .str .ro [] []
noncomputable def c0 : Code := subC b [1]
noncomputable def K1 (k : Nat) : C := outD h c0 K0
noncomputable def K2 (k : Nat) : C := seqC E h k c0 K0
noncomputable def c1 : Code := subC b [1, 1]
noncomputable def K3 (k : Nat) : C := outD h c1 (K1 k)
noncomputable def K4 (k : Nat) : C := seqC E h k c1 (K1 k)
noncomputable def c2 : Code := subC b [1, 0, 1]
noncomputable def K5 (k : Nat) : C := outD h c2 (K4 k)
noncomputable def K6 (k : Nat) : C := seqC E h k c2 (K4 k)
noncomputable def c3 : Code := subC b [1, 0, 1, 0, 1]
noncomputable def K7 (k : Nat) : C := outD h c3 (K5 k)
noncomputable def K8 (k : Nat) : C := seqC E h k c3 (K5 k)
noncomputable def c4 : Code := subC b [1, 1, 1]
noncomputable def K9 (k : Nat) : C := outD h c4 (K3 k)
noncomputable def K10 (k : Nat) : C := seqC E h k c4 (K3 k)
noncomputable def c5 : Code := subC b [1, 1, 0, 1]
noncomputable def K11 (k : Nat) : C := outD h c5 (K10 k)
noncomputable def K12 (k : Nat) : C := seqC E h k c5 (K10 k)
noncomputable def c6 : Code := subC b [1, 1, 0, 1, 0, 1]
noncomputable def K13 (k : Nat) : C := outD h c6 (K11 k)
noncomputable def K14 (k : Nat) : C := seqC E h k c6 (K11 k)
noncomputable def c7 : Code := subC b [1, 1, 1, 1]
noncomputable def K15 (k : Nat) : C := outD h c7 (K9 k)
noncomputable def K16 (k : Nat) : C := seqC E h k c7 (K9 k)
noncomputable def c8 : Code := subC b [1, 1, 1, 0, 1]
noncomputable def K17 (k : Nat) : C := outD h c8 (K16 k)
noncomputable def K18 (k : Nat) : C := seqC E h k c8 (K16 k)
noncomputable def c9 : Code := subC b [1, 1, 1, 0, 1, 0, 1]
noncomputable def K19 (k : Nat) : C := outD h c9 (K17 k)
noncomputable def K20 (k : Nat) : C := seqC E h k c9 (K17 k)
noncomputable def c10 : Code := subC b [1, 1, 1, 1, 1]
noncomputable def K21 (k : Nat) : C := outD h c10 (K15 k)
noncomputable def K22 (k : Nat) : C := seqC E h k c10 (K15 k)
noncomputable def c11 : Code := subC b [1, 1, 1, 1, 0, 1]
noncomputable def K23 (k : Nat) : C := outD h c11 (K22 k)
noncomputable def K24 (k : Nat) : C := seqC E h k c11 (K22 k)
noncomputable def c12 : Code := subC b [1, 1, 1, 1, 0, 1, 0, 1]
noncomputable def K25 (k : Nat) : C := outD h c12 (K23 k)
noncomputable def K26 (k : Nat) : C := seqC E h k c12 (K23 k)
noncomputable def c13 : Code := subC b [1, 1, 1, 1, 1, 1]
noncomputable def K27 (k : Nat) : C := outD h c13 (K21 k)
noncomputable def K28 (k : Nat) : C := seqC E h k c13 (K21 k)
abbrev T0 := Int → R
noncomputable def u0 (k : Nat) : T0 := fun (x0 : Int) => runOf (S := cx) E h k Try.f49 [.val (.int .i64)] .str .ro (x0, ())
def t0 : T0 := fun (x0 : Int) => 
  (bindR (s_ref01_Sign (x0, ())) fun r1 => (iteB (notB r1.1) (some (([] : List UInt8), ())) (iteB (decide (x0 < (128 : Int))) (some ((bytesOf ([(w8 (x0))] : List (Int))), ())) (iteB (decide (x0 < (2048 : Int))) (some ((bytesOf ([(w8 ((w64 ((192 : Int) + (w64 (Int.tdiv x0 (64 : Int))))))), (w8 ((w64 ((128 : Int) + (Int.tmod x0 (64 : Int))))))] : List (Int))), ())) (iteB (decide (x0 < (65536 : Int))) (some ((bytesOf ([(w8 ((w64 ((224 : Int) + (w64 (Int.tdiv x0 (4096 : Int))))))), (w8 ((w64 ((128 : Int) + (Int.tmod (w64 (Int.tdiv x0 (64 : Int))) (64 : Int)))))), (w8 ((w64 ((128 : Int) + (Int.tmod x0 (64 : Int))))))] : List (Int))), ())) (some ((bytesOf ([(w8 ((w64 ((240 : Int) + (w64 (Int.tdiv x0 (262144 : Int))))))), (w8 ((w64 ((128 : Int) + (Int.tmod (w64 (Int.tdiv x0 (4096 : Int))) (64 : Int)))))), (w8 ((w64 ((128 : Int) + (Int.tmod (w64 (Int.tdiv x0 (64 : Int))) (64 : Int)))))), (w8 ((w64 ((128 : Int) + (Int.tmod x0 (64 : Int))))))] : List (Int))), ())))))))
theorem e0 (k : Nat) : u0 k = t0 := by kernel_rfl
def p0 (k : Nat) : T0 := t0
theorem o0 (k : Nat) : u0 k = p0 k := (Eq.trans (b := t0) (e0 k) (by kernel_rfl))
end ref01_Bytes
def s_ref01_Bytes (a : (Int) × (Unit)) : Option ((List UInt8) × (Unit)) := ref01_Bytes.p0 (fuel) a.1
noncomputable def F_ref01_Bytes : FSpec cx.toNm := { ps := [.val (.int .i64)], nres := 1, rt := .str, rm := .ro, f := s_ref01_Bytes }
theorem ok_ref01_Bytes : FnOk Try.prog F_ref01_Bytes 49 := fn_of (hn := ref01_Bytes.h) (E := ref01_Bytes.E) cxOk (tysT _) (fs_cons ok_ref01_Sign fs_nil) follows Try.func49 (by kernel_rfl) (fun a r h => ⟨fuel, (congrFun (ref01_Bytes.o0 (fuel)) a.1).trans h⟩)
namespace ref01_Edge
noncomputable def E : Env cx := { tys := tys, fs := fsOf [(103, F_ref01_Follower)] }
abbrev R := Option ((Bool) × (Unit))
abbrev C := Exit → ST cx → R
noncomputable def b : Code := bodyC Try.f52
noncomputable def h : Hint := { vs := [0, 1, 4], nil := [], cuts := [(2, ([0, 1, 12], []), ([0, 1], [])), (3, ([0, 1], []), ([0, 1], []))], ret := ([4], []), ords := [] }
noncomputable def K0 : C := fin (S := cx) E Try.f52.results.toList .bool .ro [] []
noncomputable def c0 : Code := subC b [1]
noncomputable def K1 (k : Nat) : C := outD h c0 K0
noncomputable def K2 (k : Nat) : C := seqC E h k c0 K0
noncomputable def c1 : Code := subC b [1, 1]
noncomputable def K3 (k : Nat) : C := outD h c1 (K1 k)
noncomputable def K4 (k : Nat) : C := seqC E h k c1 (K1 k)
noncomputable def c2 : Code := subC b [1, 0, 1]
noncomputable def K5 (k : Nat) : C := outD h c2 (K4 k)
noncomputable def K6 (k : Nat) : C := seqC E h k c2 (K4 k)
noncomputable def c3 : Code := subC b [1, 0, 1, 0, 1]
noncomputable def K7 (k : Nat) : C := outD h c3 (K5 k)
noncomputable def K8 (k : Nat) : C := seqC E h k c3 (K5 k)
noncomputable def c4 : Code := subC b [1, 1, 1]
noncomputable def K9 (k : Nat) : C := outD h c4 (K3 k)
noncomputable def K10 (k : Nat) : C := seqC E h k c4 (K3 k)
abbrev T2 := (List UInt8) → Int → R
abbrev T1 := (List UInt8) → Int → Bool → R
abbrev T0 := (List UInt8) → Int → R
abbrev s2 : (List UInt8) → Int → ST cx := fun (x0 : List UInt8) (x1 : Int) => ({ vars := [(0, .v .str .ro x0), (1, .v (.int .i64) .ro x1)], scr := [], mems := [] } : ST cx)
noncomputable def u2 (k : Nat) : T2 := fun (x0 : List UInt8) (x1 : Int) => uK (run E h k c1) (s2 x0 x1) (K3 k)
noncomputable abbrev l2 (k : Nat) : T2 := fun (x0 : List UInt8) (x1 : Int) => cutK (run E h k c1) (s2 x0 x1) (K3 k)
abbrev s1 : (List UInt8) → Int → Bool → ST cx := fun (x0 : List UInt8) (x1 : Int) (x12 : Bool) => ({ vars := [(0, .v .str .ro x0), (1, .v (.int .i64) .ro x1), (12, .v .bool .ro x12)], scr := [], mems := [] } : ST cx)
noncomputable def u1 (k : Nat) : T1 := fun (x0 : List UInt8) (x1 : Int) (x12 : Bool) => uK (run E h k c2) (s1 x0 x1 x12) (K5 k)
noncomputable abbrev l1 (k : Nat) : T1 := fun (x0 : List UInt8) (x1 : Int) (x12 : Bool) => cutK (run E h k c2) (s1 x0 x1 x12) (K5 k)
noncomputable def u0 (k : Nat) : T0 := fun (x0 : List UInt8) (x1 : Int) => runOf (S := cx) E h k Try.f52 [.val .str, .val (.int .i64)] .bool .ro (x0, x1, ())
def t2 : T2 := fun (x0 : List UInt8) (x1 : Int) => 
  (iteB (decide (x1 = ((List.length x0 : Nat) : Int))) (some (true, ())) (withinR x1 (List.length x0) fun q1 => (bindR (s_ref01_Follower ((byteAt x0 q1), ())) fun r2 => (some ((notB r2.1), ())))))
theorem e2 (k : Nat) : u2 k = t2 := by kernel_rfl
theorem g2 (k : Nat) : l2 k = u2 k := funext fun _ => funext fun _ => cut_u _ _ _
def p2 (k : Nat) : T2 := t2
theorem o2 (k : Nat) : l2 k = p2 k := (Eq.trans (b := u2 k) (g2 k) (Eq.trans (b := t2) (e2 k) (by kernel_rfl)))
def t1 (f2 : T2) : T1 := fun (x0 : List UInt8) (x1 : Int) (x12 : Bool) => 
  (iteB x12 (some (false, ())) (f2 x0 x1))
theorem e1 (k : Nat) : u1 k = t1 (l2 k) := by kernel_rfl
theorem g1 (k : Nat) : l1 k = u1 k := funext fun _ => funext fun _ => funext fun _ => cut_u _ _ _
theorem d1 {x2 y2 : T2} (h2 : x2 = y2) : t1 x2 = t1 y2 := by subst h2; rfl
def p1 (k : Nat) : T1 := t1 (p2 k)
theorem o1 (k : Nat) : l1 k = p1 k := (Eq.trans (b := u1 k) (g1 k) (Eq.trans (b := t1 (l2 k)) (e1 k) (Eq.trans (b := t1 (p2 k)) (d1 (o2 k)) (by kernel_rfl))))
def t0 (f1 : T1) : T0 := fun (x0 : List UInt8) (x1 : Int) => 
  (iteB (decide (x1 < (0 : Int))) (f1 x0 x1 true) (f1 x0 x1 (decide (((List.length x0 : Nat) : Int) < x1))))
theorem e0 (k : Nat) : u0 k = t0 (l1 k) := by kernel_rfl
theorem d0 {x1 y1 : T1} (h1 : x1 = y1) : t0 x1 = t0 y1 := by subst h1; rfl
def p0 (k : Nat) : T0 := t0 (p1 k)
theorem o0 (k : Nat) : u0 k = p0 k := (Eq.trans (b := t0 (l1 k)) (e0 k) (Eq.trans (b := t0 (p1 k)) (d0 (o1 k)) (by kernel_rfl)))
end ref01_Edge
def s_ref01_Edge (a : (List UInt8) × ((Int) × (Unit))) : Option ((Bool) × (Unit)) := ref01_Edge.p0 (fuel) a.1 a.2.1
noncomputable def F_ref01_Edge : FSpec cx.toNm := { ps := [.val .str, .val (.int .i64)], nres := 1, rt := .bool, rm := .ro, f := s_ref01_Edge }
theorem ok_ref01_Edge : FnOk Try.prog F_ref01_Edge 52 := fn_of (hn := ref01_Edge.h) (E := ref01_Edge.E) cxOk (tysT _) (fs_cons ok_ref01_Follower fs_nil) follows Try.func52 (by kernel_rfl) (fun a r h => ⟨fuel, (congrFun (congrFun (ref01_Edge.o0 (fuel)) a.1) a.2.1).trans h⟩)
namespace law03_PlaceBack
noncomputable def E : Env cx := { tys := tys, fs := fsOf [(40, F_rope_Of), (48, F_law03_alive), (49, F_ref01_Bytes), (50, F_place_Mark), (51, F_place_At), (52, F_ref01_Edge)] }
abbrev R := Option ((Bool) × (Unit))
abbrev C := Exit → ST cx → R
noncomputable def b : Code := bodyC Try.f9
noncomputable def h : Hint := { vs := [0, 1, 4, 5, 6, 7, 9, 10, 11, 12, 13], nil := [], cuts := [(5, ([0, 1, 5, 6], []), ([1, 5], [])), (7, ([0, 1, 5, 6], []), ([0, 1, 5, 6], [])), (8, ([1, 5], []), ([1, 5], []))], ret := ([4], [7, 10]), ords := [] }
noncomputable def K0 : C := fin (S := cx) E Try.f9.results.toList .bool .ro [] []
noncomputable def c0 : Code := subC b [1]
noncomputable def K1 (k : Nat) : C := outD h c0 K0
noncomputable def K2 (k : Nat) : C := seqC E h k c0 K0
noncomputable def c1 : Code := subC b [1, 1]
noncomputable def K3 (k : Nat) : C := outD h c1 (K1 k)
noncomputable def K4 (k : Nat) : C := seqC E h k c1 (K1 k)
noncomputable def c2 : Code := subC b [1, 0, 1]
noncomputable def K5 (k : Nat) : C := outD h c2 (K4 k)
noncomputable def K6 (k : Nat) : C := seqC E h k c2 (K4 k)
noncomputable def c3 : Code := subC b [1, 0, 1, 0, 1]
noncomputable def K7 (k : Nat) : C := outD h c3 (K5 k)
noncomputable def K8 (k : Nat) : C := seqC E h k c3 (K5 k)
noncomputable def c4 : Code := subC b [1, 1, 1]
noncomputable def K9 (k : Nat) : C := outD h c4 (K3 k)
noncomputable def K10 (k : Nat) : C := seqC E h k c4 (K3 k)
noncomputable def c5 : Code := subC b [1, 1, 1, 1]
noncomputable def K11 (k : Nat) : C := outD h c5 (K9 k)
noncomputable def K12 (k : Nat) : C := seqC E h k c5 (K9 k)
noncomputable def c6 : Code := subC b [1, 1, 1, 0, 1]
noncomputable def K13 (k : Nat) : C := outD h c6 (K12 k)
noncomputable def K14 (k : Nat) : C := seqC E h k c6 (K12 k)
noncomputable def K15 (k : Nat) : C := blockK 0 (K13 k)
noncomputable def c7 : Code := subC b [1, 1, 1, 0, 1, 0, 0]
noncomputable def K16 (k n1 : Nat) : C := loopD E h k c7 (K15 k) n1
noncomputable def c8 : Code := subC b [1, 1, 1, 0, 1, 0, 0, 1]
noncomputable def K17 (k n1 : Nat) : C := outD h c8 (K16 k n1)
noncomputable def K18 (k n1 : Nat) : C := seqC E h k c8 (K16 k n1)
noncomputable def c9 : Code := subC b [1, 1, 1, 0, 1, 0, 0, 0, 1]
noncomputable def K19 (k n1 : Nat) : C := outD h c9 (K18 k n1)
noncomputable def K20 (k n1 : Nat) : C := seqC E h k c9 (K18 k n1)
noncomputable def c10 : Code := subC b [1, 1, 1, 0, 1, 0, 0, 1, 1]
noncomputable def K21 (k n1 : Nat) : C := outD h c10 (K17 k n1)
noncomputable def K22 (k n1 : Nat) : C := seqC E h k c10 (K17 k n1)
noncomputable def K23 (k n1 : Nat) : C := blockK 1 (K22 k n1)
noncomputable def c11 : Code := subC b [1, 1, 1, 1, 1]
noncomputable def K24 (k : Nat) : C := outD h c11 (K11 k)
noncomputable def K25 (k : Nat) : C := seqC E h k c11 (K11 k)
noncomputable def c12 : Code := subC b [1, 1, 1, 1, 1, 1]
noncomputable def K26 (k : Nat) : C := outD h c12 (K24 k)
noncomputable def K27 (k : Nat) : C := seqC E h k c12 (K24 k)
noncomputable def c13 : Code := subC b [1, 1, 1, 1, 1, 1, 1]
noncomputable def K28 (k : Nat) : C := outD h c13 (K26 k)
noncomputable def K29 (k : Nat) : C := seqC E h k c13 (K26 k)
noncomputable def c14 : Code := subC b [1, 1, 1, 1, 1, 1, 1, 1]
noncomputable def K30 (k : Nat) : C := outD h c14 (K28 k)
noncomputable def K31 (k : Nat) : C := seqC E h k c14 (K28 k)
noncomputable def c15 : Code := subC b [1, 1, 1, 1, 1, 1, 1, 1, 1]
noncomputable def K32 (k : Nat) : C := outD h c15 (K30 k)
noncomputable def K33 (k : Nat) : C := seqC E h k c15 (K30 k)
noncomputable def c16 : Code := subC b [1, 1, 1, 1, 1, 1, 1, 1, 0, 1]
noncomputable def K34 (k : Nat) : C := outD h c16 (K33 k)
noncomputable def K35 (k : Nat) : C := seqC E h k c16 (K33 k)
noncomputable def c17 : Code := subC b [1, 1, 1, 1, 1, 1, 1, 1, 0, 1, 0, 1]
noncomputable def K36 (k : Nat) : C := outD h c17 (K34 k)
noncomputable def K37 (k : Nat) : C := seqC E h k c17 (K34 k)
noncomputable def c18 : Code := subC b [1, 1, 1, 1, 1, 1, 1, 1, 1, 1]
noncomputable def K38 (k : Nat) : C := outD h c18 (K32 k)
noncomputable def K39 (k : Nat) : C := seqC E h k c18 (K32 k)
abbrev T2 := (List (Int)) → Int → (List UInt8) → Int → R
abbrev T3 := Int → (List UInt8) → R
abbrev T1 := (List (Int)) → Int → (List UInt8) → Int → R
abbrev T0 := (List (Int)) → Int → R
abbrev s2 : (List (Int)) → Int → (List UInt8) → Int → ST cx := fun (x0 : List (Int)) (x1 : Int) (x5 : List UInt8) (x6 : Int) => ({ vars := [(0, .v (.slice 3 (.int .i64)) .ro x0), (1, .v (.int .u8) .ro x1), (5, .v .str .ro x5), (6, .v (.int .i64) .ro x6)], scr := [], mems := [] } : ST cx)
noncomputable def u2 (k n1 : Nat) : T2 := fun (x0 : List (Int)) (x1 : Int) (x5 : List UInt8) (x6 : Int) => uK (run E h k c8) (s2 x0 x1 x5 x6) (K17 k n1)
noncomputable abbrev l2 (k n1 : Nat) : T2 := fun (x0 : List (Int)) (x1 : Int) (x5 : List UInt8) (x6 : Int) => cutK (run E h k c8) (s2 x0 x1 x5 x6) (K17 k n1)
abbrev s3 : Int → (List UInt8) → ST cx := fun (x1 : Int) (x5 : List UInt8) => ({ vars := [(1, .v (.int .u8) .ro x1), (5, .v .str .ro x5)], scr := [], mems := [] } : ST cx)
noncomputable def u3 (k : Nat) : T3 := fun (x1 : Int) (x5 : List UInt8) => uK (run E h k c5) (s3 x1 x5) (K11 k)
noncomputable abbrev l3 (k : Nat) : T3 := fun (x1 : Int) (x5 : List UInt8) => cutK (run E h k c5) (s3 x1 x5) (K11 k)
abbrev s1 : (List (Int)) → Int → (List UInt8) → Int → ST cx := fun (x0 : List (Int)) (x1 : Int) (x5 : List UInt8) (x6 : Int) => ({ vars := [(0, .v (.slice 3 (.int .i64)) .ro x0), (1, .v (.int .u8) .ro x1), (5, .v .str .ro x5), (6, .v (.int .i64) .ro x6)], scr := [], mems := [] } : ST cx)
noncomputable def u1 (k n1 : Nat) : T1 := fun (x0 : List (Int)) (x1 : Int) (x5 : List UInt8) (x6 : Int) => uK (loopL E h k c7 (K15 k) n1) (s1 x0 x1 x5 x6) ()
noncomputable abbrev l1 (k n1 : Nat) : T1 := fun (x0 : List (Int)) (x1 : Int) (x5 : List UInt8) (x6 : Int) => cutK (loopL E h k c7 (K15 k) n1) (s1 x0 x1 x5 x6) ()
noncomputable def u0 (k : Nat) : T0 := fun (x0 : List (Int)) (x1 : Int) => runOf (S := cx) E h k Try.f9 [.val (.slice 3 (.int .i64)), .val (.int .u8)] .bool .ro (x0, x1, ())
def t2 (f1 : T1) : T2 := fun (x0 : List (Int)) (x1 : Int) (x5 : List UInt8) (x6 : Int) => 
  (withinR x6 (List.length x0) fun q2 => (bindR (s_ref01_Bytes ((List.getD x0 q2 (0 : Int)), ())) fun r3 => (mustR (decide (List.length x5 + List.length r3.1 ≤ 140737488355328)) (f1 x0 x1 (x5 ++ r3.1) (w64 (x6 + (1 : Int)))))))
theorem e2 (k n1 : Nat) : u2 k n1 = t2 (l1 k n1) := by kernel_rfl
theorem g2 (k n1 : Nat) : l2 k n1 = u2 k n1 := funext fun _ => funext fun _ => funext fun _ => funext fun _ => cut_u _ _ _
theorem d2 {x1 y1 : T1} (h1 : x1 = y1) : t2 x1 = t2 y1 := by subst h1; rfl
def p2 (k : Nat) (a1 : T1) : T2 := t2 a1
theorem o2 (k n1 : Nat) (a1 : T1) (h1 : l1 k n1 = a1) : l2 k n1 = p2 k a1 := (Eq.trans (b := u2 k n1) (g2 k n1) (Eq.trans (b := t2 (l1 k n1)) (e2 k n1) (Eq.trans (b := t2 a1) (d2 h1) (by kernel_rfl))))
def t3 : T3 := fun (x1 : Int) (x5 : List UInt8) => 
  (bindR (s_rope_Of (x5, ())) fun r4 => (mustR (!decide ((w64 (((List.length x5 : Nat) : Int) + (1 : Int))) = 0)) (bindR (s_place_Mark (r4.1.1, ((Int.tmod (w64 (x1)) (w64 (((List.length x5 : Nat) : Int) + (1 : Int)))), ()))) fun r5 => (bindR (s_place_At (r4.1.1, (r5.1.1, ()))) fun r6 => (iteB (!decide (r5.1.2 = (0 : Int))) (some (false, ())) (bindR (s_ref01_Edge (x5, ((Int.tmod (w64 (x1)) (w64 (((List.length x5 : Nat) : Int) + (1 : Int)))), ()))) fun r7 => (iteB (notB r7.1) (some (true, ())) (iteB (decide (r6.1.2 = (0 : Int))) (some ((decide (r6.1.1 = (Int.tmod (w64 (x1)) (w64 (((List.length x5 : Nat) : Int) + (1 : Int)))))), ())) (some (false, ()))))))))))
theorem e3 (k : Nat) : u3 k = t3 := by kernel_rfl
theorem g3 (k : Nat) : l3 k = u3 k := funext fun _ => funext fun _ => cut_u _ _ _
def p3 (k : Nat) : T3 := t3
theorem o3 (k : Nat) : l3 k = p3 k := (Eq.trans (b := u3 k) (g3 k) (Eq.trans (b := t3) (e3 k) (by kernel_rfl)))
def t1 (f2 : T2) (f3 : T3) : T1 := fun (x0 : List (Int)) (x1 : Int) (x5 : List UInt8) (x6 : Int) => 
  (iteB (decide (x6 < ((List.length x0 : Nat) : Int))) (iteB (decide (x6 < (40 : Int))) (f2 x0 x1 x5 x6) (f3 x1 x5)) (f3 x1 x5))
theorem e1 (k n1 : Nat) : u1 k (n1 + 1) = t1 (l2 k n1) (l3 k) := by kernel_rfl
theorem g1 (k n1 : Nat) : l1 k (n1 + 1) = u1 k (n1 + 1) := funext fun _ => funext fun _ => funext fun _ => funext fun _ => cut_u _ _ _
theorem d1 {x2 y2 : T2} {x3 y3 : T3} (h2 : x2 = y2) (h3 : x3 = y3) : t1 x2 x3 = t1 y2 y3 := by subst h2; subst h3; rfl
def p1 (k : Nat) : Nat → T1
  | 0 => fun _ _ _ _ => none
  | n1 + 1 => t1 (p2 k (p1 k n1)) (p3 k)
theorem o1 (k : Nat) : ∀ n1, l1 k n1 = p1 k n1 := by
  intro n1
  induction n1 with
  | zero => kernel_rfl
  | succ n1 ih => exact (Eq.trans (b := u1 k (n1 + 1)) (g1 k n1) (Eq.trans (b := t1 (l2 k n1) (l3 k)) (e1 k n1) (Eq.trans (b := t1 (p2 k (p1 k n1)) (p3 k)) (d1 (o2 k n1 (p1 k n1) ih) (o3 k)) (by kernel_rfl))))
def t0 (f1 : T1) : T0 := fun (x0 : List (Int)) (x1 : Int) => 
  (bindR (s_law03_alive ()) fun r1 => (iteB (notB r1.1) (some (false, ())) (f1 x0 x1 ([] : List UInt8) (0 : Int))))
theorem e0 (k : Nat) : u0 k = t0 (l1 k k) := by kernel_rfl
theorem d0 {x1 y1 : T1} (h1 : x1 = y1) : t0 x1 = t0 y1 := by subst h1; rfl
def p0 (k : Nat) : T0 := t0 (p1 k k)
theorem o0 (k : Nat) : u0 k = p0 k := (Eq.trans (b := t0 (l1 k k)) (e0 k) (Eq.trans (b := t0 (p1 k k)) (d0 (o1 k k)) (by kernel_rfl)))
end law03_PlaceBack
def s_law03_PlaceBack (a : (List (Int)) × ((Int) × (Unit))) : Option ((Bool) × (Unit)) := law03_PlaceBack.p0 (fuel) a.1 a.2.1
noncomputable def F_law03_PlaceBack : FSpec cx.toNm := { ps := [.val (.slice 3 (.int .i64)), .val (.int .u8)], nres := 1, rt := .bool, rm := .ro, f := s_law03_PlaceBack }
theorem ok_law03_PlaceBack : FnOk Try.prog F_law03_PlaceBack 9 := fn_of (hn := law03_PlaceBack.h) (E := law03_PlaceBack.E) cxOk (tysT _) (fs_cons ok_rope_Of (fs_cons ok_law03_alive (fs_cons ok_ref01_Bytes (fs_cons ok_place_Mark (fs_cons ok_place_At (fs_cons ok_ref01_Edge fs_nil)))))) follows Try.func9 (by kernel_rfl) (fun a r h => ⟨fuel, (congrFun (congrFun (law03_PlaceBack.o0 (fuel)) a.1) a.2.1).trans h⟩)
namespace ref03_Mark
noncomputable def E : Env cx := { tys := tys, fs := fsOf [(103, F_ref01_Follower)] }
abbrev R := Option (((Int) × (Int)) × (Unit))
abbrev C := Exit → ST cx → R
noncomputable def b : Code := bodyC Try.f54
noncomputable def h : Hint := { vs := [0, 1, 4, 5, 6], nil := [], cuts := [(3, ([0, 1, 4, 5, 6], [4, 5]), ([4, 5], [4, 5])), (4, ([0, 1, 4, 5, 6], [4, 5]), ([0, 1, 4, 5, 6], [4, 5])), (10, ([4, 5], [4, 5]), ([4, 5], [4, 5]))], ret := ([4], [4, 5]), ords := [] }
noncomputable def K0 : C := fin (S := cx) E Try.f54.results.toList (.agg (.pair (.int .i64) (.int .i64))) .ro [] []
noncomputable def c0 : Code := subC b [1]
noncomputable def K1 (k : Nat) : C := outD h c0 K0
noncomputable def K2 (k : Nat) : C := seqC E h k c0 K0
noncomputable def c1 : Code := subC b [1, 1]
noncomputable def K3 (k : Nat) : C := outD h c1 (K1 k)
noncomputable def K4 (k : Nat) : C := seqC E h k c1 (K1 k)
noncomputable def c2 : Code := subC b [1, 1, 1]
noncomputable def K5 (k : Nat) : C := outD h c2 (K3 k)
noncomputable def K6 (k : Nat) : C := seqC E h k c2 (K3 k)
noncomputable def c3 : Code := subC b [1, 1, 0, 1]
noncomputable def K7 (k : Nat) : C := outD h c3 (K6 k)
noncomputable def K8 (k : Nat) : C := seqC E h k c3 (K6 k)
noncomputable def K9 (k : Nat) : C := blockK 0 (K7 k)
noncomputable def c4 : Code := subC b [1, 1, 0, 1, 0, 0]
noncomputable def K10 (k n1 : Nat) : C := loopD E h k c4 (K9 k) n1
noncomputable def c5 : Code := subC b [1, 1, 0, 1, 0, 0, 1]
noncomputable def K11 (k n1 : Nat) : C := outD h c5 (K10 k n1)
noncomputable def K12 (k n1 : Nat) : C := seqC E h k c5 (K10 k n1)
noncomputable def c6 : Code := subC b [1, 1, 0, 1, 0, 0, 0, 1]
noncomputable def K13 (k n1 : Nat) : C := outD h c6 (K12 k n1)
noncomputable def K14 (k n1 : Nat) : C := seqC E h k c6 (K12 k n1)
noncomputable def c7 : Code := subC b [1, 1, 0, 1, 0, 0, 1, 1]
noncomputable def K15 (k n1 : Nat) : C := outD h c7 (K11 k n1)
noncomputable def K16 (k n1 : Nat) : C := seqC E h k c7 (K11 k n1)
noncomputable def K17 (k n1 : Nat) : C := blockK 1 (K16 k n1)
noncomputable def c8 : Code := subC b [1, 1, 0, 1, 0, 0, 1, 0, 0, 1]
noncomputable def K18 (k n1 : Nat) : C := outD h c8 (K17 k n1)
noncomputable def K19 (k n1 : Nat) : C := seqC E h k c8 (K17 k n1)
noncomputable def c9 : Code := subC b [1, 1, 0, 1, 0, 0, 1, 0, 0, 1, 0, 1]
noncomputable def K20 (k n1 : Nat) : C := outD h c9 (K18 k n1)
noncomputable def K21 (k n1 : Nat) : C := seqC E h k c9 (K18 k n1)
noncomputable def c10 : Code := subC b [1, 1, 0, 1, 0, 0, 1, 0, 0, 1, 1, 1]
noncomputable def K22 (k n1 : Nat) : C := outD h c10 (K18 k n1)
noncomputable def K23 (k n1 : Nat) : C := seqC E h k c10 (K18 k n1)
noncomputable def c11 : Code := subC b [1, 1, 1, 1]
noncomputable def K24 (k : Nat) : C := outD h c11 (K5 k)
noncomputable def K25 (k : Nat) : C := seqC E h k c11 (K5 k)
abbrev T2 := (List UInt8) → Int → Int → ((Int) × (Int)) → ((Int) × (Int)) → R
abbrev T3 := ((Int) × (Int)) → ((Int) × (Int)) → R
abbrev T1 := (List UInt8) → Int → Int → ((Int) × (Int)) → ((Int) × (Int)) → R
abbrev T0 := (List UInt8) → Int → R
abbrev s2 : (List UInt8) → Int → Int → ((Int) × (Int)) → ((Int) × (Int)) → ST cx := fun (x0 : List UInt8) (x1 x6 : Int) (m4 m5 : (Int) × (Int)) => ({ vars := [(0, .v .str .ro x0), (1, .v (.int .i64) .ro x1), (4, .addr (.mem 4) []), (5, .addr (.mem 5) []), (6, .v (.int .i64) .ro x6)], scr := [], mems := [(4, ⟨(.agg (.pair (.int .i64) (.int .i64))), .ro, m4⟩), (5, ⟨(.agg (.pair (.int .i64) (.int .i64))), .ro, m5⟩)] } : ST cx)
noncomputable def u2 (k n1 : Nat) : T2 := fun (x0 : List UInt8) (x1 x6 : Int) (m4 m5 : (Int) × (Int)) => uK (run E h k c7) (s2 x0 x1 x6 m4 m5) (K15 k n1)
noncomputable abbrev l2 (k n1 : Nat) : T2 := fun (x0 : List UInt8) (x1 x6 : Int) (m4 m5 : (Int) × (Int)) => cutK (run E h k c7) (s2 x0 x1 x6 m4 m5) (K15 k n1)
abbrev s3 : ((Int) × (Int)) → ((Int) × (Int)) → ST cx := fun (m4 m5 : (Int) × (Int)) => ({ vars := [(4, .addr (.mem 4) []), (5, .addr (.mem 5) [])], scr := [], mems := [(4, ⟨(.agg (.pair (.int .i64) (.int .i64))), .ro, m4⟩), (5, ⟨(.agg (.pair (.int .i64) (.int .i64))), .ro, m5⟩)] } : ST cx)
noncomputable def u3 (k : Nat) : T3 := fun (m4 m5 : (Int) × (Int)) => uK (run E h k c2) (s3 m4 m5) (K5 k)
noncomputable abbrev l3 (k : Nat) : T3 := fun (m4 m5 : (Int) × (Int)) => cutK (run E h k c2) (s3 m4 m5) (K5 k)
abbrev s1 : (List UInt8) → Int → Int → ((Int) × (Int)) → ((Int) × (Int)) → ST cx := fun (x0 : List UInt8) (x1 x6 : Int) (m4 m5 : (Int) × (Int)) => ({ vars := [(0, .v .str .ro x0), (1, .v (.int .i64) .ro x1), (4, .addr (.mem 4) []), (5, .addr (.mem 5) []), (6, .v (.int .i64) .ro x6)], scr := [], mems := [(4, ⟨(.agg (.pair (.int .i64) (.int .i64))), .ro, m4⟩), (5, ⟨(.agg (.pair (.int .i64) (.int .i64))), .ro, m5⟩)] } : ST cx)
noncomputable def u1 (k n1 : Nat) : T1 := fun (x0 : List UInt8) (x1 x6 : Int) (m4 m5 : (Int) × (Int)) => uK (loopL E h k c4 (K9 k) n1) (s1 x0 x1 x6 m4 m5) ()
noncomputable abbrev l1 (k n1 : Nat) : T1 := fun (x0 : List UInt8) (x1 x6 : Int) (m4 m5 : (Int) × (Int)) => cutK (loopL E h k c4 (K9 k) n1) (s1 x0 x1 x6 m4 m5) ()
noncomputable def u0 (k : Nat) : T0 := fun (x0 : List UInt8) (x1 : Int) => runOf (S := cx) E h k Try.f54 [.val .str, .val (.int .i64)] (.agg (.pair (.int .i64) (.int .i64))) .ro (x0, x1, ())
def t2 (f1 : T1) : T2 := fun (x0 : List UInt8) (x1 x6 : Int) (m4 m5 : (Int) × (Int)) => 
  (f1 x0 x1 (w64 (x6 + (1 : Int))) m4 m5)
theorem e2 (k n1 : Nat) : u2 k n1 = t2 (l1 k n1) := by kernel_rfl
theorem g2 (k n1 : Nat) : l2 k n1 = u2 k n1 := funext fun _ => funext fun _ => funext fun _ => funext fun _ => funext fun _ => cut_u _ _ _
theorem d2 {x1 y1 : T1} (h1 : x1 = y1) : t2 x1 = t2 y1 := by subst h1; rfl
def p2 (k : Nat) (a1 : T1) : T2 := t2 a1
theorem o2 (k n1 : Nat) (a1 : T1) (h1 : l1 k n1 = a1) : l2 k n1 = p2 k a1 := (Eq.trans (b := u2 k n1) (g2 k n1) (Eq.trans (b := t2 (l1 k n1)) (e2 k n1) (Eq.trans (b := t2 a1) (d2 h1) (by kernel_rfl))))
def t3 : T3 := fun (m4 m5 : (Int) × (Int)) => 
  (some (m5, ()))
theorem e3 (k : Nat) : u3 k = t3 := by kernel_rfl
theorem g3 (k : Nat) : l3 k = u3 k := funext fun _ => funext fun _ => cut_u _ _ _
def p3 (k : Nat) : T3 := t3
theorem o3 (k : Nat) : l3 k = p3 k := (Eq.trans (b := u3 k) (g3 k) (Eq.trans (b := t3) (e3 k) (by kernel_rfl)))
def t1 (f2 : T2) (f3 : T3) : T1 := fun (x0 : List UInt8) (x1 x6 : Int) (m4 m5 : (Int) × (Int)) => 
  (iteB (decide (x6 < x1)) (withinR x6 (List.length x0) fun q1 => (iteB (decide ((byteAt x0 q1) = (10 : Int))) (f2 x0 x1 x6 m4 ((w64 (m5.1 + (1 : Int))), (0 : Int))) (withinR x6 (List.length x0) fun q2 => (bindR (s_ref01_Follower ((byteAt x0 q2), ())) fun r3 => (iteB (notB r3.1) (f2 x0 x1 x6 m4 (m5.1, (w64 (m5.2 + (1 : Int))))) (f2 x0 x1 x6 m4 m5)))))) (f3 m4 m5))
theorem e1 (k n1 : Nat) : u1 k (n1 + 1) = t1 (l2 k n1) (l3 k) := by kernel_rfl
theorem g1 (k n1 : Nat) : l1 k (n1 + 1) = u1 k (n1 + 1) := funext fun _ => funext fun _ => funext fun _ => funext fun _ => funext fun _ => cut_u _ _ _
theorem d1 {x2 y2 : T2} {x3 y3 : T3} (h2 : x2 = y2) (h3 : x3 = y3) : t1 x2 x3 = t1 y2 y3 := by subst h2; subst h3; rfl
def p1 (k : Nat) : Nat → T1
  | 0 => fun _ _ _ _ _ => none
  | n1 + 1 => t1 (p2 k (p1 k n1)) (p3 k)
theorem o1 (k : Nat) : ∀ n1, l1 k n1 = p1 k n1 := by
  intro n1
  induction n1 with
  | zero => kernel_rfl
  | succ n1 ih => exact (Eq.trans (b := u1 k (n1 + 1)) (g1 k n1) (Eq.trans (b := t1 (l2 k n1) (l3 k)) (e1 k n1) (Eq.trans (b := t1 (p2 k (p1 k n1)) (p3 k)) (d1 (o2 k n1 (p1 k n1) ih) (o3 k)) (by kernel_rfl))))
def t0 (f1 : T1) : T0 := fun (x0 : List UInt8) (x1 : Int) => 
  (f1 x0 x1 (0 : Int) ((0 : Int), (0 : Int)) ((0 : Int), (0 : Int)))
theorem e0 (k : Nat) : u0 k = t0 (l1 k k) := by kernel_rfl
theorem d0 {x1 y1 : T1} (h1 : x1 = y1) : t0 x1 = t0 y1 := by subst h1; rfl
def p0 (k : Nat) : T0 := t0 (p1 k k)
theorem o0 (k : Nat) : u0 k = p0 k := (Eq.trans (b := t0 (l1 k k)) (e0 k) (Eq.trans (b := t0 (p1 k k)) (d0 (o1 k k)) (by kernel_rfl)))
end ref03_Mark
def s_ref03_Mark (a : (List UInt8) × ((Int) × (Unit))) : Option (((Int) × (Int)) × (Unit)) := ref03_Mark.p0 (fuel) a.1 a.2.1
noncomputable def F_ref03_Mark : FSpec cx.toNm := { ps := [.val .str, .val (.int .i64)], nres := 1, rt := (.agg (.pair (.int .i64) (.int .i64))), rm := .ro, f := s_ref03_Mark }
theorem ok_ref03_Mark : FnOk Try.prog F_ref03_Mark 54 := fn_of (hn := ref03_Mark.h) (E := ref03_Mark.E) cxOk (tysT _) (fs_cons ok_ref01_Follower fs_nil) follows Try.func54 (by kernel_rfl) (fun a r h => ⟨fuel, (congrFun (congrFun (ref03_Mark.o0 (fuel)) a.1) a.2.1).trans h⟩)
namespace ref03_Lines
noncomputable def E : Env cx := { tys := tys, fs := fsOf [(54, F_ref03_Mark)] }
abbrev R := Option ((Int) × (Unit))
abbrev C := Exit → ST cx → R
noncomputable def b : Code := bodyC Try.f55
noncomputable def h : Hint := { vs := [0, 2], nil := [], cuts := [], ret := ([2], []), ords := [] }
noncomputable def K0 : C := fin (S := cx) E Try.f55.results.toList (.int .i64) .ro [] []
noncomputable def c0 : Code := subC b [1]
noncomputable def K1 (k : Nat) : C := outD h c0 K0
noncomputable def K2 (k : Nat) : C := seqC E h k c0 K0
noncomputable def c1 : Code := subC b [1, 1]
noncomputable def K3 (k : Nat) : C := outD h c1 (K1 k)
noncomputable def K4 (k : Nat) : C := seqC E h k c1 (K1 k)
abbrev T0 := (List UInt8) → R
noncomputable def u0 (k : Nat) : T0 := fun (x0 : List UInt8) => runOf (S := cx) E h k Try.f55 [.val .str] (.int .i64) .ro (x0, ())
def t0 : T0 := fun (x0 : List UInt8) => 
  (bindR (s_ref03_Mark (x0, (((List.length x0 : Nat) : Int), ()))) fun r1 => (some ((w64 (r1.1.1 + (1 : Int))), ())))
theorem e0 (k : Nat) : u0 k = t0 := by kernel_rfl
def p0 (k : Nat) : T0 := t0
theorem o0 (k : Nat) : u0 k = p0 k := (Eq.trans (b := t0) (e0 k) (by kernel_rfl))
end ref03_Lines
def s_ref03_Lines (a : (List UInt8) × (Unit)) : Option ((Int) × (Unit)) := ref03_Lines.p0 (fuel) a.1
noncomputable def F_ref03_Lines : FSpec cx.toNm := { ps := [.val .str], nres := 1, rt := (.int .i64), rm := .ro, f := s_ref03_Lines }
theorem ok_ref03_Lines : FnOk Try.prog F_ref03_Lines 55 := fn_of (hn := ref03_Lines.h) (E := ref03_Lines.E) cxOk (tysT _) (fs_cons ok_ref03_Mark fs_nil) follows Try.func55 (by kernel_rfl) (fun a r h => ⟨fuel, (congrFun (ref03_Lines.o0 (fuel)) a.1).trans h⟩)
namespace ref03_Span
noncomputable def E : Env cx := { tys := tys, fs := fsOf [(54, F_ref03_Mark), (55, F_ref03_Lines)] }
abbrev R := Option (((Int) × (Int)) × (Unit))
abbrev C := Exit → ST cx → R
noncomputable def b : Code := bodyC Try.f59
noncomputable def h : Hint := { vs := [0, 1, 4, 5, 6, 7], nil := [], cuts := [(2, ([0, 1, 15], []), ([0, 1], [])), (3, ([0, 1], []), ([0, 1], [])), (4, ([0, 1, 6], []), ([0, 1, 6], [])), (6, ([0, 6], []), ([0, 6], [])), (7, ([0, 6, 7], []), ([0, 6, 7], [])), (8, ([0, 6, 7], []), ([0, 6, 7], [])), (9, ([6, 7], []), ([6, 7], []))], ret := ([4, 5], []), ords := [] }
noncomputable def K0 : C := fin (S := cx) E Try.f59.results.toList (.pair (.int .i64) (.int .i64)) .ro [] []
noncomputable def c0 : Code := subC b [1]
noncomputable def K1 (k : Nat) : C := outD h c0 K0
noncomputable def K2 (k : Nat) : C := seqC E h k c0 K0
noncomputable def c1 : Code := subC b [1, 1]
noncomputable def K3 (k : Nat) : C := outD h c1 (K1 k)
noncomputable def K4 (k : Nat) : C := seqC E h k c1 (K1 k)
noncomputable def c2 : Code := subC b [1, 0, 1]
noncomputable def K5 (k : Nat) : C := outD h c2 (K4 k)
noncomputable def K6 (k : Nat) : C := seqC E h k c2 (K4 k)
noncomputable def c3 : Code := subC b [1, 0, 1, 0, 1]
noncomputable def K7 (k : Nat) : C := outD h c3 (K5 k)
noncomputable def K8 (k : Nat) : C := seqC E h k c3 (K5 k)
noncomputable def c4 : Code := subC b [1, 1, 1]
noncomputable def K9 (k : Nat) : C := outD h c4 (K3 k)
noncomputable def K10 (k : Nat) : C := seqC E h k c4 (K3 k)
noncomputable def c5 : Code := subC b [1, 1, 1, 1]
noncomputable def K11 (k : Nat) : C := outD h c5 (K9 k)
noncomputable def K12 (k : Nat) : C := seqC E h k c5 (K9 k)
noncomputable def K13 (k : Nat) : C := blockK 0 (K12 k)
noncomputable def c6 : Code := subC b [1, 1, 1, 0, 0, 0]
noncomputable def K14 (k n3 : Nat) : C := loopD E h k c6 (K13 k) n3
noncomputable def c7 : Code := subC b [1, 1, 1, 0, 0, 0, 1]
noncomputable def K15 (k n3 : Nat) : C := outD h c7 (K14 k n3)
noncomputable def K16 (k n3 : Nat) : C := seqC E h k c7 (K14 k n3)
noncomputable def c8 : Code := subC b [1, 1, 1, 0, 0, 0, 0, 1]
noncomputable def K17 (k n3 : Nat) : C := outD h c8 (K16 k n3)
noncomputable def K18 (k n3 : Nat) : C := seqC E h k c8 (K16 k n3)
noncomputable def K19 (k n3 : Nat) : C := blockK 1 (K15 k n3)
noncomputable def c9 : Code := subC b [1, 1, 1, 1, 1]
noncomputable def K20 (k : Nat) : C := outD h c9 (K11 k)
noncomputable def K21 (k : Nat) : C := seqC E h k c9 (K11 k)
noncomputable def c10 : Code := subC b [1, 1, 1, 1, 1, 1]
noncomputable def K22 (k : Nat) : C := outD h c10 (K20 k)
noncomputable def K23 (k : Nat) : C := seqC E h k c10 (K20 k)
noncomputable def K24 (k : Nat) : C := blockK 2 (K23 k)
noncomputable def c11 : Code := subC b [1, 1, 1, 1, 1, 0, 0, 0]
noncomputable def K25 (k n5 : Nat) : C := loopD E h k c11 (K24 k) n5
noncomputable def c12 : Code := subC b [1, 1, 1, 1, 1, 0, 0, 0, 1]
noncomputable def K26 (k n5 : Nat) : C := outD h c12 (K25 k n5)
noncomputable def K27 (k n5 : Nat) : C := seqC E h k c12 (K25 k n5)
noncomputable def c13 : Code := subC b [1, 1, 1, 1, 1, 0, 0, 0, 0, 1]
noncomputable def K28 (k n5 : Nat) : C := outD h c13 (K27 k n5)
noncomputable def K29 (k n5 : Nat) : C := seqC E h k c13 (K27 k n5)
noncomputable def K30 (k n5 : Nat) : C := blockK 3 (K26 k n5)
noncomputable def c14 : Code := subC b [1, 1, 1, 1, 1, 1, 1]
noncomputable def K31 (k : Nat) : C := outD h c14 (K22 k)
noncomputable def K32 (k : Nat) : C := seqC E h k c14 (K22 k)
abbrev T6 := (List UInt8) → Int → Int → R
abbrev T7 := Int → Int → R
abbrev T5 := (List UInt8) → Int → Int → R
abbrev T4 := (List UInt8) → Int → R
abbrev T3 := (List UInt8) → Int → Int → R
abbrev T2 := (List UInt8) → Int → R
abbrev T1 := (List UInt8) → Int → Bool → R
abbrev T0 := (List UInt8) → Int → R
abbrev s6 : (List UInt8) → Int → Int → ST cx := fun (x0 : List UInt8) (x6 x7 : Int) => ({ vars := [(0, .v .str .ro x0), (6, .v (.int .i64) .ro x6), (7, .v (.int .i64) .ro x7)], scr := [], mems := [] } : ST cx)
noncomputable def u6 (k n5 : Nat) : T6 := fun (x0 : List UInt8) (x6 x7 : Int) => uK (run E h k c12) (s6 x0 x6 x7) (K26 k n5)
noncomputable abbrev l6 (k n5 : Nat) : T6 := fun (x0 : List UInt8) (x6 x7 : Int) => cutK (run E h k c12) (s6 x0 x6 x7) (K26 k n5)
abbrev s7 : Int → Int → ST cx := fun (x6 x7 : Int) => ({ vars := [(6, .v (.int .i64) .ro x6), (7, .v (.int .i64) .ro x7)], scr := [], mems := [] } : ST cx)
noncomputable def u7 (k : Nat) : T7 := fun (x6 x7 : Int) => uK (run E h k c10) (s7 x6 x7) (K22 k)
noncomputable abbrev l7 (k : Nat) : T7 := fun (x6 x7 : Int) => cutK (run E h k c10) (s7 x6 x7) (K22 k)
abbrev s5 : (List UInt8) → Int → Int → ST cx := fun (x0 : List UInt8) (x6 x7 : Int) => ({ vars := [(0, .v .str .ro x0), (6, .v (.int .i64) .ro x6), (7, .v (.int .i64) .ro x7)], scr := [], mems := [] } : ST cx)
noncomputable def u5 (k n5 : Nat) : T5 := fun (x0 : List UInt8) (x6 x7 : Int) => uK (loopL E h k c11 (K24 k) n5) (s5 x0 x6 x7) ()
noncomputable abbrev l5 (k n5 : Nat) : T5 := fun (x0 : List UInt8) (x6 x7 : Int) => cutK (loopL E h k c11 (K24 k) n5) (s5 x0 x6 x7) ()
abbrev s4 : (List UInt8) → Int → ST cx := fun (x0 : List UInt8) (x6 : Int) => ({ vars := [(0, .v .str .ro x0), (6, .v (.int .i64) .ro x6)], scr := [], mems := [] } : ST cx)
noncomputable def u4 (k : Nat) : T4 := fun (x0 : List UInt8) (x6 : Int) => uK (run E h k c5) (s4 x0 x6) (K11 k)
noncomputable abbrev l4 (k : Nat) : T4 := fun (x0 : List UInt8) (x6 : Int) => cutK (run E h k c5) (s4 x0 x6) (K11 k)
abbrev s3 : (List UInt8) → Int → Int → ST cx := fun (x0 : List UInt8) (x1 x6 : Int) => ({ vars := [(0, .v .str .ro x0), (1, .v (.int .i64) .ro x1), (6, .v (.int .i64) .ro x6)], scr := [], mems := [] } : ST cx)
noncomputable def u3 (k n3 : Nat) : T3 := fun (x0 : List UInt8) (x1 x6 : Int) => uK (loopL E h k c6 (K13 k) n3) (s3 x0 x1 x6) ()
noncomputable abbrev l3 (k n3 : Nat) : T3 := fun (x0 : List UInt8) (x1 x6 : Int) => cutK (loopL E h k c6 (K13 k) n3) (s3 x0 x1 x6) ()
abbrev s2 : (List UInt8) → Int → ST cx := fun (x0 : List UInt8) (x1 : Int) => ({ vars := [(0, .v .str .ro x0), (1, .v (.int .i64) .ro x1)], scr := [], mems := [] } : ST cx)
noncomputable def u2 (k : Nat) : T2 := fun (x0 : List UInt8) (x1 : Int) => uK (run E h k c1) (s2 x0 x1) (K3 k)
noncomputable abbrev l2 (k : Nat) : T2 := fun (x0 : List UInt8) (x1 : Int) => cutK (run E h k c1) (s2 x0 x1) (K3 k)
abbrev s1 : (List UInt8) → Int → Bool → ST cx := fun (x0 : List UInt8) (x1 : Int) (x15 : Bool) => ({ vars := [(0, .v .str .ro x0), (1, .v (.int .i64) .ro x1), (15, .v .bool .ro x15)], scr := [], mems := [] } : ST cx)
noncomputable def u1 (k : Nat) : T1 := fun (x0 : List UInt8) (x1 : Int) (x15 : Bool) => uK (run E h k c2) (s1 x0 x1 x15) (K5 k)
noncomputable abbrev l1 (k : Nat) : T1 := fun (x0 : List UInt8) (x1 : Int) (x15 : Bool) => cutK (run E h k c2) (s1 x0 x1 x15) (K5 k)
noncomputable def u0 (k : Nat) : T0 := fun (x0 : List UInt8) (x1 : Int) => runOf (S := cx) E h k Try.f59 [.val .str, .val (.int .i64)] (.pair (.int .i64) (.int .i64)) .ro (x0, x1, ())
def t6 (f5 : T5) : T6 := fun (x0 : List UInt8) (x6 x7 : Int) => 
  (f5 x0 x6 (w64 (x7 + (1 : Int))))
theorem e6 (k n5 : Nat) : u6 k n5 = t6 (l5 k n5) := by kernel_rfl
theorem g6 (k n5 : Nat) : l6 k n5 = u6 k n5 := funext fun _ => funext fun _ => funext fun _ => cut_u _ _ _
theorem d6 {x5 y5 : T5} (h5 : x5 = y5) : t6 x5 = t6 y5 := by subst h5; rfl
def p6 (k : Nat) (a5 : T5) : T6 := t6 a5
theorem o6 (k n5 : Nat) (a5 : T5) (h5 : l5 k n5 = a5) : l6 k n5 = p6 k a5 := (Eq.trans (b := u6 k n5) (g6 k n5) (Eq.trans (b := t6 (l5 k n5)) (e6 k n5) (Eq.trans (b := t6 a5) (d6 h5) (by kernel_rfl))))
def t7 : T7 := fun (x6 x7 : Int) => 
  (some ((x6, x7), ()))
theorem e7 (k : Nat) : u7 k = t7 := by kernel_rfl
theorem g7 (k : Nat) : l7 k = u7 k := funext fun _ => funext fun _ => cut_u _ _ _
def p7 (k : Nat) : T7 := t7
theorem o7 (k : Nat) : l7 k = p7 k := (Eq.trans (b := u7 k) (g7 k) (Eq.trans (b := t7) (e7 k) (by kernel_rfl)))
def t5 (f6 : T6) (f7 : T7) : T5 := fun (x0 : List UInt8) (x6 x7 : Int) => 
  (iteB (decide (x7 < ((List.length x0 : Nat) : Int))) (withinR x7 (List.length x0) fun q3 => (iteB (!decide ((byteAt x0 q3) = (10 : Int))) (f6 x0 x6 x7) (f7 x6 x7))) (f7 x6 x7))
theorem e5 (k n5 : Nat) : u5 k (n5 + 1) = t5 (l6 k n5) (l7 k) := by kernel_rfl
theorem g5 (k n5 : Nat) : l5 k (n5 + 1) = u5 k (n5 + 1) := funext fun _ => funext fun _ => funext fun _ => cut_u _ _ _
theorem d5 {x6 y6 : T6} {x7 y7 : T7} (h6 : x6 = y6) (h7 : x7 = y7) : t5 x6 x7 = t5 y6 y7 := by subst h6; subst h7; rfl
def p5 (k : Nat) : Nat → T5
  | 0 => fun _ _ _ => none
  | n5 + 1 => t5 (p6 k (p5 k n5)) (p7 k)
theorem o5 (k : Nat) : ∀ n5, l5 k n5 = p5 k n5 := by
  intro n5
  induction n5 with
  | zero => kernel_rfl
  | succ n5 ih => exact (Eq.trans (b := u5 k (n5 + 1)) (g5 k n5) (Eq.trans (b := t5 (l6 k n5) (l7 k)) (e5 k n5) (Eq.trans (b := t5 (p6 k (p5 k n5)) (p7 k)) (d5 (o6 k n5 (p5 k n5) ih) (o7 k)) (by kernel_rfl))))
def t4 (f5 : T5) : T4 := fun (x0 : List UInt8) (x6 : Int) => 
  (f5 x0 x6 x6)
theorem e4 (k : Nat) : u4 k = t4 (l5 k k) := by kernel_rfl
theorem g4 (k : Nat) : l4 k = u4 k := funext fun _ => funext fun _ => cut_u _ _ _
theorem d4 {x5 y5 : T5} (h5 : x5 = y5) : t4 x5 = t4 y5 := by subst h5; rfl
def p4 (k : Nat) : T4 := t4 (p5 k k)
theorem o4 (k : Nat) : l4 k = p4 k := (Eq.trans (b := u4 k) (g4 k) (Eq.trans (b := t4 (l5 k k)) (e4 k) (Eq.trans (b := t4 (p5 k k)) (d4 (o5 k k)) (by kernel_rfl))))
def t3 (f3 : T3) (f4 : T4) : T3 := fun (x0 : List UInt8) (x1 x6 : Int) => 
  (bindR (s_ref03_Mark (x0, (x6, ()))) fun r2 => (iteB (decide (r2.1.1 < x1)) (f3 x0 x1 (w64 (x6 + (1 : Int)))) (f4 x0 x6)))
theorem e3 (k n3 : Nat) : u3 k (n3 + 1) = t3 (l3 k n3) (l4 k) := by kernel_rfl
theorem g3 (k n3 : Nat) : l3 k (n3 + 1) = u3 k (n3 + 1) := funext fun _ => funext fun _ => funext fun _ => cut_u _ _ _
theorem d3 {x3 y3 : T3} {x4 y4 : T4} (h3 : x3 = y3) (h4 : x4 = y4) : t3 x3 x4 = t3 y3 y4 := by subst h3; subst h4; rfl
def p3 (k : Nat) : Nat → T3
  | 0 => fun _ _ _ => none
  | n3 + 1 => t3 (p3 k n3) (p4 k)
theorem o3 (k : Nat) : ∀ n3, l3 k n3 = p3 k n3 := by
  intro n3
  induction n3 with
  | zero => kernel_rfl
  | succ n3 ih => exact (Eq.trans (b := u3 k (n3 + 1)) (g3 k n3) (Eq.trans (b := t3 (l3 k n3) (l4 k)) (e3 k n3) (Eq.trans (b := t3 (p3 k n3) (p4 k)) (d3 ih (o4 k)) (by kernel_rfl))))
def t2 (f3 : T3) : T2 := fun (x0 : List UInt8) (x1 : Int) => 
  (f3 x0 x1 (0 : Int))
theorem e2 (k : Nat) : u2 k = t2 (l3 k k) := by kernel_rfl
theorem g2 (k : Nat) : l2 k = u2 k := funext fun _ => funext fun _ => cut_u _ _ _
theorem d2 {x3 y3 : T3} (h3 : x3 = y3) : t2 x3 = t2 y3 := by subst h3; rfl
def p2 (k : Nat) : T2 := t2 (p3 k k)
theorem o2 (k : Nat) : l2 k = p2 k := (Eq.trans (b := u2 k) (g2 k) (Eq.trans (b := t2 (l3 k k)) (e2 k) (Eq.trans (b := t2 (p3 k k)) (d2 (o3 k k)) (by kernel_rfl))))
def t1 (f2 : T2) : T1 := fun (x0 : List UInt8) (x1 : Int) (x15 : Bool) => 
  (iteB x15 (some (((-1 : Int), (-1 : Int)), ())) (f2 x0 x1))
theorem e1 (k : Nat) : u1 k = t1 (l2 k) := by kernel_rfl
theorem g1 (k : Nat) : l1 k = u1 k := funext fun _ => funext fun _ => funext fun _ => cut_u _ _ _
theorem d1 {x2 y2 : T2} (h2 : x2 = y2) : t1 x2 = t1 y2 := by subst h2; rfl
def p1 (k : Nat) : T1 := t1 (p2 k)
theorem o1 (k : Nat) : l1 k = p1 k := (Eq.trans (b := u1 k) (g1 k) (Eq.trans (b := t1 (l2 k)) (e1 k) (Eq.trans (b := t1 (p2 k)) (d1 (o2 k)) (by kernel_rfl))))
def t0 (f1 : T1) : T0 := fun (x0 : List UInt8) (x1 : Int) => 
  (iteB (decide (x1 < (0 : Int))) (f1 x0 x1 true) (bindR (s_ref03_Lines (x0, ())) fun r1 => (f1 x0 x1 (decide (r1.1 ≤ x1)))))
theorem e0 (k : Nat) : u0 k = t0 (l1 k) := by kernel_rfl
theorem d0 {x1 y1 : T1} (h1 : x1 = y1) : t0 x1 = t0 y1 := by subst h1; rfl
def p0 (k : Nat) : T0 := t0 (p1 k)
theorem o0 (k : Nat) : u0 k = p0 k := (Eq.trans (b := t0 (l1 k)) (e0 k) (Eq.trans (b := t0 (p1 k)) (d0 (o1 k)) (by kernel_rfl)))
end ref03_Span
def s_ref03_Span (a : (List UInt8) × ((Int) × (Unit))) : Option (((Int) × (Int)) × (Unit)) := ref03_Span.p0 (fuel) a.1 a.2.1
noncomputable def F_ref03_Span : FSpec cx.toNm := { ps := [.val .str, .val (.int .i64)], nres := 2, rt := (.pair (.int .i64) (.int .i64)), rm := .ro, f := s_ref03_Span }
theorem ok_ref03_Span : FnOk Try.prog F_ref03_Span 59 := fn_of (hn := ref03_Span.h) (E := ref03_Span.E) cxOk (tysT _) (fs_cons ok_ref03_Mark (fs_cons ok_ref03_Lines fs_nil)) follows Try.func59 (by kernel_rfl) (fun a r h => ⟨fuel, (congrFun (congrFun (ref03_Span.o0 (fuel)) a.1) a.2.1).trans h⟩)
namespace ref03_Width
noncomputable def E : Env cx := { tys := tys, fs := fsOf [(59, F_ref03_Span), (105, F_ref01_Count)] }
abbrev R := Option ((Int) × (Unit))
abbrev C := Exit → ST cx → R
noncomputable def b : Code := bodyC Try.f60
noncomputable def h : Hint := { vs := [0, 1, 4, 5, 6], nil := [], cuts := [], ret := ([4], []), ords := [] }
noncomputable def K0 : C := fin (S := cx) E Try.f60.results.toList (.int .i64) .ro [] []
noncomputable def c0 : Code := subC b [1]
noncomputable def K1 (k : Nat) : C := outD h c0 K0
noncomputable def K2 (k : Nat) : C := seqC E h k c0 K0
noncomputable def c1 : Code := subC b [1, 1]
noncomputable def K3 (k : Nat) : C := outD h c1 (K1 k)
noncomputable def K4 (k : Nat) : C := seqC E h k c1 (K1 k)
noncomputable def c2 : Code := subC b [1, 1, 1]
noncomputable def K5 (k : Nat) : C := outD h c2 (K3 k)
noncomputable def K6 (k : Nat) : C := seqC E h k c2 (K3 k)
abbrev T0 := (List UInt8) → Int → R
noncomputable def u0 (k : Nat) : T0 := fun (x0 : List UInt8) (x1 : Int) => runOf (S := cx) E h k Try.f60 [.val .str, .val (.int .i64)] (.int .i64) .ro (x0, x1, ())
def t0 : T0 := fun (x0 : List UInt8) (x1 : Int) => 
  (bindR (s_ref03_Span (x0, (x1, ()))) fun r1 => (mustR (decide (0 ≤ r1.1.2)) (mustR (decide (r1.1.2 ≤ (((List.length x0) : Nat) : Int))) (mustR (decide (0 ≤ r1.1.1)) (mustR (decide (r1.1.1 ≤ (((Int.toNat r1.1.2) : Nat) : Int))) (bindR (s_ref01_Count ((List.drop (Int.toNat r1.1.1) (List.take (Int.toNat r1.1.2) x0)), ())) fun r2 => (some (r2.1, ()))))))))
theorem e0 (k : Nat) : u0 k = t0 := by kernel_rfl
def p0 (k : Nat) : T0 := t0
theorem o0 (k : Nat) : u0 k = p0 k := (Eq.trans (b := t0) (e0 k) (by kernel_rfl))
end ref03_Width
def s_ref03_Width (a : (List UInt8) × ((Int) × (Unit))) : Option ((Int) × (Unit)) := ref03_Width.p0 (fuel) a.1 a.2.1
noncomputable def F_ref03_Width : FSpec cx.toNm := { ps := [.val .str, .val (.int .i64)], nres := 1, rt := (.int .i64), rm := .ro, f := s_ref03_Width }
theorem ok_ref03_Width : FnOk Try.prog F_ref03_Width 60 := fn_of (hn := ref03_Width.h) (E := ref03_Width.E) cxOk (tysT _) (fs_cons ok_ref03_Span (fs_cons ok_ref01_Count fs_nil)) follows Try.func60 (by kernel_rfl) (fun a r h => ⟨fuel, (congrFun (congrFun (ref03_Width.o0 (fuel)) a.1) a.2.1).trans h⟩)
namespace ref03_At
noncomputable def E : Env cx := { tys := tys, fs := fsOf [(52, F_ref01_Edge), (59, F_ref03_Span), (105, F_ref01_Count)] }
abbrev R := Option ((Int) × (Unit))
abbrev C := Exit → ST cx → R
noncomputable def b : Code := bodyC Try.f104
noncomputable def h : Hint := { vs := [0, 1, 3, 4, 5, 6, 7, 8], nil := [], cuts := [(4, ([0, 3, 5, 6, 7, 8], [3]), ([7], [])), (5, ([0, 3, 5, 6, 7, 8], [3]), ([0, 3, 5, 6, 7, 8], [3])), (7, ([0, 3, 5, 6, 7, 8, 40], [3]), ([0, 3, 5, 6, 7, 8], [3])), (8, ([7], []), ([7], []))], ret := ([4], [3]), ords := [(6, [0, 1, 2, 3, 4, 5, 6, 7, 8, 9, 10, 11, 12, 14, 15, 13, 16, 17])] }
noncomputable def K0 : C := fin (S := cx) E Try.f104.results.toList (.int .i64) .ro [] []
noncomputable def c0 : Code := subC b [1]
noncomputable def K1 (k : Nat) : C := outD h c0 K0
noncomputable def K2 (k : Nat) : C := seqC E h k c0 K0
noncomputable def c1 : Code := subC b [1, 1]
noncomputable def K3 (k : Nat) : C := outD h c1 (K1 k)
noncomputable def K4 (k : Nat) : C := seqC E h k c1 (K1 k)
noncomputable def c2 : Code := subC b [1, 1, 1]
noncomputable def K5 (k : Nat) : C := outD h c2 (K3 k)
noncomputable def K6 (k : Nat) : C := seqC E h k c2 (K3 k)
noncomputable def c3 : Code := subC b [1, 1, 1, 1]
noncomputable def K7 (k : Nat) : C := outD h c3 (K5 k)
noncomputable def K8 (k : Nat) : C := seqC E h k c3 (K5 k)
noncomputable def c4 : Code := subC b [1, 1, 1, 0, 1]
noncomputable def K9 (k : Nat) : C := outD h c4 (K8 k)
noncomputable def K10 (k : Nat) : C := seqC E h k c4 (K8 k)
noncomputable def K11 (k : Nat) : C := blockK 0 (K9 k)
noncomputable def c5 : Code := subC b [1, 1, 1, 0, 1, 0, 0]
noncomputable def K12 (k n1 : Nat) : C := loopD E h k c5 (K11 k) n1
noncomputable def c6 : Code := subC b [1, 1, 1, 0, 1, 0, 0, 1]
noncomputable def K13 (k n1 : Nat) : C := outD h c6 (K12 k n1)
noncomputable def K14 (k n1 : Nat) : C := seqC E h k c6 (K12 k n1)
noncomputable def c7 : Code := subC b [1, 1, 1, 0, 1, 0, 0, 0, 1]
noncomputable def K15 (k n1 : Nat) : C := outD h c7 (K14 k n1)
noncomputable def K16 (k n1 : Nat) : C := seqC E h k c7 (K14 k n1)
noncomputable def c8 : Code := subC b [1, 1, 1, 0, 1, 0, 0, 1, 1]
noncomputable def K17 (k n1 : Nat) : C := outD h c8 (K13 k n1)
noncomputable def K18 (k n1 : Nat) : C := seqC E h k c8 (K13 k n1)
noncomputable def K19 (k n1 : Nat) : C := blockK 1 (K18 k n1)
noncomputable def c9 : Code := subC b [1, 1, 1, 0, 1, 0, 0, 1, 0, 0, 1]
noncomputable def K20 (k n1 : Nat) : C := outD h c9 (K19 k n1)
noncomputable def K21 (k n1 : Nat) : C := seqC E h k c9 (K19 k n1)
noncomputable def c10 : Code := subC b [1, 1, 1, 1, 1]
noncomputable def K22 (k : Nat) : C := outD h c10 (K7 k)
noncomputable def K23 (k : Nat) : C := seqC E h k c10 (K7 k)
abbrev T4 := (List UInt8) → Int → Int → Int → Int → ((Int) × (Int)) → R
abbrev T2 := (List UInt8) → Int → Int → Int → Int → Bool → ((Int) × (Int)) → R
abbrev T3 := Int → R
abbrev T1 := (List UInt8) → Int → Int → Int → Int → ((Int) × (Int)) → R
abbrev T0 := (List UInt8) → ((Int) × (Int)) → R
abbrev s4 : (List UInt8) → Int → Int → Int → Int → ((Int) × (Int)) → ST cx := fun (x0 : List UInt8) (x5 x6 x7 x8 : Int) (m3 : (Int) × (Int)) => ({ vars := [(0, .v .str .ro x0), (3, .addr (.mem 3) []), (5, .v (.int .i64) .ro x5), (6, .v (.int .i64) .ro x6), (7, .v (.int .i64) .ro x7), (8, .v (.int .i64) .ro x8)], scr := [], mems := [(3, ⟨(.agg (.pair (.int .i64) (.int .i64))), .ro, m3⟩)] } : ST cx)
noncomputable def u4 (k n1 : Nat) : T4 := fun (x0 : List UInt8) (x5 x6 x7 x8 : Int) (m3 : (Int) × (Int)) => uK (run E h k c8) (s4 x0 x5 x6 x7 x8 m3) (K17 k n1)
noncomputable abbrev l4 (k n1 : Nat) : T4 := fun (x0 : List UInt8) (x5 x6 x7 x8 : Int) (m3 : (Int) × (Int)) => cutK (run E h k c8) (s4 x0 x5 x6 x7 x8 m3) (K17 k n1)
abbrev s2 : (List UInt8) → Int → Int → Int → Int → Bool → ((Int) × (Int)) → ST cx := fun (x0 : List UInt8) (x5 x6 x7 x8 : Int) (x40 : Bool) (m3 : (Int) × (Int)) => ({ vars := [(0, .v .str .ro x0), (3, .addr (.mem 3) []), (5, .v (.int .i64) .ro x5), (6, .v (.int .i64) .ro x6), (7, .v (.int .i64) .ro x7), (8, .v (.int .i64) .ro x8), (40, .v .bool .ro x40)], scr := [], mems := [(3, ⟨(.agg (.pair (.int .i64) (.int .i64))), .ro, m3⟩)] } : ST cx)
noncomputable def u2 (k n1 : Nat) : T2 := fun (x0 : List UInt8) (x5 x6 x7 x8 : Int) (x40 : Bool) (m3 : (Int) × (Int)) => uK (run E h k c9) (s2 x0 x5 x6 x7 x8 x40 m3) (K20 k n1)
noncomputable abbrev l2 (k n1 : Nat) : T2 := fun (x0 : List UInt8) (x5 x6 x7 x8 : Int) (x40 : Bool) (m3 : (Int) × (Int)) => cutK (run E h k c9) (s2 x0 x5 x6 x7 x8 x40 m3) (K20 k n1)
abbrev s3 : Int → ST cx := fun (x7 : Int) => ({ vars := [(7, .v (.int .i64) .ro x7)], scr := [], mems := [] } : ST cx)
noncomputable def u3 (k : Nat) : T3 := fun (x7 : Int) => uK (run E h k c3) (s3 x7) (K7 k)
noncomputable abbrev l3 (k : Nat) : T3 := fun (x7 : Int) => cutK (run E h k c3) (s3 x7) (K7 k)
abbrev s1 : (List UInt8) → Int → Int → Int → Int → ((Int) × (Int)) → ST cx := fun (x0 : List UInt8) (x5 x6 x7 x8 : Int) (m3 : (Int) × (Int)) => ({ vars := [(0, .v .str .ro x0), (3, .addr (.mem 3) []), (5, .v (.int .i64) .ro x5), (6, .v (.int .i64) .ro x6), (7, .v (.int .i64) .ro x7), (8, .v (.int .i64) .ro x8)], scr := [], mems := [(3, ⟨(.agg (.pair (.int .i64) (.int .i64))), .ro, m3⟩)] } : ST cx)
noncomputable def u1 (k n1 : Nat) : T1 := fun (x0 : List UInt8) (x5 x6 x7 x8 : Int) (m3 : (Int) × (Int)) => uK (loopL E h k c5 (K11 k) n1) (s1 x0 x5 x6 x7 x8 m3) ()
noncomputable abbrev l1 (k n1 : Nat) : T1 := fun (x0 : List UInt8) (x5 x6 x7 x8 : Int) (m3 : (Int) × (Int)) => cutK (loopL E h k c5 (K11 k) n1) (s1 x0 x5 x6 x7 x8 m3) ()
noncomputable def u0 (k : Nat) : T0 := fun (x0 : List UInt8) (x1 : (Int) × (Int)) => runOf (S := cx) E h k Try.f104 [.val .str, .val (.agg (.pair (.int .i64) (.int .i64)))] (.int .i64) .ro (x0, x1, ())
def t4 (f1 : T1) : T4 := fun (x0 : List UInt8) (x5 x6 x7 x8 : Int) (m3 : (Int) × (Int)) => 
  (f1 x0 x5 x6 x7 (w64 (x8 + (1 : Int))) m3)
theorem e4 (k n1 : Nat) : u4 k n1 = t4 (l1 k n1) := by kernel_rfl
theorem g4 (k n1 : Nat) : l4 k n1 = u4 k n1 := funext fun _ => funext fun _ => funext fun _ => funext fun _ => funext fun _ => funext fun _ => cut_u _ _ _
theorem d4 {x1 y1 : T1} (h1 : x1 = y1) : t4 x1 = t4 y1 := by subst h1; rfl
def p4 (k : Nat) (a1 : T1) : T4 := t4 a1
theorem o4 (k n1 : Nat) (a1 : T1) (h1 : l1 k n1 = a1) : l4 k n1 = p4 k a1 := (Eq.trans (b := u4 k n1) (g4 k n1) (Eq.trans (b := t4 (l1 k n1)) (e4 k n1) (Eq.trans (b := t4 a1) (d4 h1) (by kernel_rfl))))
def t2 (f4 : T4) : T2 := fun (x0 : List UInt8) (x5 x6 x7 x8 : Int) (x40 : Bool) (m3 : (Int) × (Int)) => 
  (iteB x40 (f4 x0 x5 x6 x8 x8 m3) (f4 x0 x5 x6 x7 x8 m3))
theorem e2 (k n1 : Nat) : u2 k n1 = t2 (l4 k n1) := by kernel_rfl
theorem g2 (k n1 : Nat) : l2 k n1 = u2 k n1 := funext fun _ => funext fun _ => funext fun _ => funext fun _ => funext fun _ => funext fun _ => funext fun _ => cut_u _ _ _
theorem d2 {x4 y4 : T4} (h4 : x4 = y4) : t2 x4 = t2 y4 := by subst h4; rfl
def p2 (k : Nat) (a1 : T1) : T2 := t2 (p4 k a1)
theorem o2 (k n1 : Nat) (a1 : T1) (h1 : l1 k n1 = a1) : l2 k n1 = p2 k a1 := (Eq.trans (b := u2 k n1) (g2 k n1) (Eq.trans (b := t2 (l4 k n1)) (e2 k n1) (Eq.trans (b := t2 (p4 k a1)) (d2 (o4 k n1 a1 h1)) (by kernel_rfl))))
def t3 : T3 := fun (x7 : Int) => 
  (some (x7, ()))
theorem e3 (k : Nat) : u3 k = t3 := by kernel_rfl
theorem g3 (k : Nat) : l3 k = u3 k := funext fun _ => cut_u _ _ _
def p3 (k : Nat) : T3 := t3
theorem o3 (k : Nat) : l3 k = p3 k := (Eq.trans (b := u3 k) (g3 k) (Eq.trans (b := t3) (e3 k) (by kernel_rfl)))
def t1 (f2 : T2) (f3 : T3) : T1 := fun (x0 : List UInt8) (x5 x6 x7 x8 : Int) (m3 : (Int) × (Int)) => 
  (iteB (decide (x8 ≤ x6)) (mustR (decide (0 ≤ x6)) (mustR (decide (x6 ≤ (((List.length x0) : Nat) : Int))) (mustR (decide (0 ≤ x5)) (mustR (decide (x5 ≤ (((Int.toNat x6) : Nat) : Int))) (bindR (s_ref01_Edge ((List.drop (Int.toNat x5) (List.take (Int.toNat x6) x0)), ((w64 (x8 - x5)), ()))) fun r2 => (iteB r2.1 (mustR (decide (0 ≤ x8)) (mustR (decide (x8 ≤ (((List.length x0) : Nat) : Int))) (mustR (decide (0 ≤ x5)) (mustR (decide (x5 ≤ (((Int.toNat x8) : Nat) : Int))) (bindR (s_ref01_Count ((List.drop (Int.toNat x5) (List.take (Int.toNat x8) x0)), ())) fun r3 => (f2 x0 x5 x6 x7 x8 (decide (r3.1 ≤ m3.2)) m3)))))) (f2 x0 x5 x6 x7 x8 false m3))))))) (f3 x7))
theorem e1 (k n1 : Nat) : u1 k (n1 + 1) = t1 (l2 k n1) (l3 k) := by kernel_rfl
theorem g1 (k n1 : Nat) : l1 k (n1 + 1) = u1 k (n1 + 1) := funext fun _ => funext fun _ => funext fun _ => funext fun _ => funext fun _ => funext fun _ => cut_u _ _ _
theorem d1 {x2 y2 : T2} {x3 y3 : T3} (h2 : x2 = y2) (h3 : x3 = y3) : t1 x2 x3 = t1 y2 y3 := by subst h2; subst h3; rfl
def p1 (k : Nat) : Nat → T1
  | 0 => fun _ _ _ _ _ _ => none
  | n1 + 1 => t1 (p2 k (p1 k n1)) (p3 k)
theorem o1 (k : Nat) : ∀ n1, l1 k n1 = p1 k n1 := by
  intro n1
  induction n1 with
  | zero => kernel_rfl
  | succ n1 ih => exact (Eq.trans (b := u1 k (n1 + 1)) (g1 k n1) (Eq.trans (b := t1 (l2 k n1) (l3 k)) (e1 k n1) (Eq.trans (b := t1 (p2 k (p1 k n1)) (p3 k)) (d1 (o2 k n1 (p1 k n1) ih) (o3 k)) (by kernel_rfl))))
def t0 (f1 : T1) : T0 := fun (x0 : List UInt8) (x1 : (Int) × (Int)) => 
  (bindR (s_ref03_Span (x0, (x1.1, ()))) fun r1 => (f1 x0 r1.1.1 r1.1.2 r1.1.1 r1.1.1 x1))
theorem e0 (k : Nat) : u0 k = t0 (l1 k k) := by kernel_rfl
theorem d0 {x1 y1 : T1} (h1 : x1 = y1) : t0 x1 = t0 y1 := by subst h1; rfl
def p0 (k : Nat) : T0 := t0 (p1 k k)
theorem o0 (k : Nat) : u0 k = p0 k := (Eq.trans (b := t0 (l1 k k)) (e0 k) (Eq.trans (b := t0 (p1 k k)) (d0 (o1 k k)) (by kernel_rfl)))
end ref03_At
def s_ref03_At (a : (List UInt8) × (((Int) × (Int)) × (Unit))) : Option ((Int) × (Unit)) := ref03_At.p0 (fuel) a.1 a.2.1
noncomputable def F_ref03_At : FSpec cx.toNm := { ps := [.val .str, .val (.agg (.pair (.int .i64) (.int .i64)))], nres := 1, rt := (.int .i64), rm := .ro, f := s_ref03_At }
theorem ok_ref03_At : FnOk Try.prog F_ref03_At 104 := fn_of (hn := ref03_At.h) (E := ref03_At.E) cxOk (tysT _) (fs_cons ok_ref01_Edge (fs_cons ok_ref03_Span (fs_cons ok_ref01_Count fs_nil))) follows Try.func104 (by kernel_rfl) (fun a r h => ⟨fuel, (congrFun (congrFun (ref03_At.o0 (fuel)) a.1) a.2.1).trans h⟩)
namespace ref03_Near
noncomputable def E : Env cx := { tys := tys, fs := fsOf [(55, F_ref03_Lines), (60, F_ref03_Width), (104, F_ref03_At)] }
abbrev R := Option ((Int) × (Unit))
abbrev C := Exit → ST cx → R
noncomputable def b : Code := bodyC Try.f56
noncomputable def h : Hint := { vs := [0, 1, 3, 4, 5], nil := [], cuts := [(7, ([0, 3], [3]), ([0, 3], [3])), (10, ([0, 3], [3]), ([0, 3], [3]))], ret := ([4], [3]), ords := [] }
noncomputable def K0 : C := fin (S := cx) E Try.f56.results.toList (.int .i64) .ro [] []
noncomputable def c0 : Code := subC b [1]
noncomputable def K1 (k : Nat) : C := outD h c0 K0
noncomputable def K2 (k : Nat) : C := seqC E h k c0 K0
noncomputable def c1 : Code := subC b [1, 1]
noncomputable def K3 (k : Nat) : C := outD h c1 (K1 k)
noncomputable def K4 (k : Nat) : C := seqC E h k c1 (K1 k)
noncomputable def c2 : Code := subC b [1, 0, 1]
noncomputable def K5 (k : Nat) : C := outD h c2 (K4 k)
noncomputable def K6 (k : Nat) : C := seqC E h k c2 (K4 k)
noncomputable def c3 : Code := subC b [1, 0, 1, 0, 1]
noncomputable def K7 (k : Nat) : C := outD h c3 (K5 k)
noncomputable def K8 (k : Nat) : C := seqC E h k c3 (K5 k)
noncomputable def c4 : Code := subC b [1, 1, 1]
noncomputable def K9 (k : Nat) : C := outD h c4 (K3 k)
noncomputable def K10 (k : Nat) : C := seqC E h k c4 (K3 k)
noncomputable def c5 : Code := subC b [1, 1, 0, 1]
noncomputable def K11 (k : Nat) : C := outD h c5 (K10 k)
noncomputable def K12 (k : Nat) : C := seqC E h k c5 (K10 k)
noncomputable def c6 : Code := subC b [1, 1, 0, 1, 0, 1]
noncomputable def K13 (k : Nat) : C := outD h c6 (K11 k)
noncomputable def K14 (k : Nat) : C := seqC E h k c6 (K11 k)
noncomputable def c7 : Code := subC b [1, 1, 1, 1]
noncomputable def K15 (k : Nat) : C := outD h c7 (K9 k)
noncomputable def K16 (k : Nat) : C := seqC E h k c7 (K9 k)
noncomputable def c8 : Code := subC b [1, 1, 1, 0, 1]
noncomputable def K17 (k : Nat) : C := outD h c8 (K16 k)
noncomputable def K18 (k : Nat) : C := seqC E h k c8 (K16 k)
noncomputable def c9 : Code := subC b [1, 1, 1, 1, 1]
noncomputable def K19 (k : Nat) : C := outD h c9 (K15 k)
noncomputable def K20 (k : Nat) : C := seqC E h k c9 (K15 k)
noncomputable def c10 : Code := subC b [1, 1, 1, 1, 0, 1]
noncomputable def K21 (k : Nat) : C := outD h c10 (K20 k)
noncomputable def K22 (k : Nat) : C := seqC E h k c10 (K20 k)
noncomputable def c11 : Code := subC b [1, 1, 1, 1, 0, 1, 1]
noncomputable def K23 (k : Nat) : C := outD h c11 (K21 k)
noncomputable def K24 (k : Nat) : C := seqC E h k c11 (K21 k)
noncomputable def c12 : Code := subC b [1, 1, 1, 1, 1, 1]
noncomputable def K25 (k : Nat) : C := outD h c12 (K19 k)
noncomputable def K26 (k : Nat) : C := seqC E h k c12 (K19 k)
abbrev T2 := (List UInt8) → ((Int) × (Int)) → R
abbrev T1 := (List UInt8) → ((Int) × (Int)) → R
abbrev T0 := (List UInt8) → ((Int) × (Int)) → R
abbrev s2 : (List UInt8) → ((Int) × (Int)) → ST cx := fun (x0 : List UInt8) (m3 : (Int) × (Int)) => ({ vars := [(0, .v .str .ro x0), (3, .addr (.mem 3) [])], scr := [], mems := [(3, ⟨(.agg (.pair (.int .i64) (.int .i64))), .ro, m3⟩)] } : ST cx)
noncomputable def u2 (k : Nat) : T2 := fun (x0 : List UInt8) (m3 : (Int) × (Int)) => uK (run E h k c9) (s2 x0 m3) (K19 k)
noncomputable abbrev l2 (k : Nat) : T2 := fun (x0 : List UInt8) (m3 : (Int) × (Int)) => cutK (run E h k c9) (s2 x0 m3) (K19 k)
abbrev s1 : (List UInt8) → ((Int) × (Int)) → ST cx := fun (x0 : List UInt8) (m3 : (Int) × (Int)) => ({ vars := [(0, .v .str .ro x0), (3, .addr (.mem 3) [])], scr := [], mems := [(3, ⟨(.agg (.pair (.int .i64) (.int .i64))), .ro, m3⟩)] } : ST cx)
noncomputable def u1 (k : Nat) : T1 := fun (x0 : List UInt8) (m3 : (Int) × (Int)) => uK (run E h k c7) (s1 x0 m3) (K15 k)
noncomputable abbrev l1 (k : Nat) : T1 := fun (x0 : List UInt8) (m3 : (Int) × (Int)) => cutK (run E h k c7) (s1 x0 m3) (K15 k)
noncomputable def u0 (k : Nat) : T0 := fun (x0 : List UInt8) (x1 : (Int) × (Int)) => runOf (S := cx) E h k Try.f56 [.val .str, .val (.agg (.pair (.int .i64) (.int .i64)))] (.int .i64) .ro (x0, x1, ())
def t2 : T2 := fun (x0 : List UInt8) (m3 : (Int) × (Int)) => 
  (bindR (s_ref03_At (x0, (m3, ()))) fun r3 => (some (r3.1, ())))
theorem e2 (k : Nat) : u2 k = t2 := by kernel_rfl
theorem g2 (k : Nat) : l2 k = u2 k := funext fun _ => funext fun _ => cut_u _ _ _
def p2 (k : Nat) : T2 := t2
theorem o2 (k : Nat) : l2 k = p2 k := (Eq.trans (b := u2 k) (g2 k) (Eq.trans (b := t2) (e2 k) (by kernel_rfl)))
def t1 (f2 : T2) : T1 := fun (x0 : List UInt8) (m3 : (Int) × (Int)) => 
  (bindR (s_ref03_Width (x0, (m3.1, ()))) fun r2 => (iteB (decide (r2.1 < m3.2)) (f2 x0 (m3.1, r2.1)) (f2 x0 m3)))
theorem e1 (k : Nat) : u1 k = t1 (l2 k) := by kernel_rfl
theorem g1 (k : Nat) : l1 k = u1 k := funext fun _ => funext fun _ => cut_u _ _ _
theorem d1 {x2 y2 : T2} (h2 : x2 = y2) : t1 x2 = t1 y2 := by subst h2; rfl
def p1 (k : Nat) : T1 := t1 (p2 k)
theorem o1 (k : Nat) : l1 k = p1 k := (Eq.trans (b := u1 k) (g1 k) (Eq.trans (b := t1 (l2 k)) (e1 k) (Eq.trans (b := t1 (p2 k)) (d1 (o2 k)) (by kernel_rfl))))
def t0 (f1 : T1) : T0 := fun (x0 : List UInt8) (x1 : (Int) × (Int)) => 
  (iteB (decide (x1.1 < (0 : Int))) (some ((0 : Int), ())) (bindR (s_ref03_Lines (x0, ())) fun r1 => (iteB (decide (r1.1 ≤ x1.1)) (some (((List.length x0 : Nat) : Int), ())) (iteB (decide (x1.2 < (0 : Int))) (f1 x0 (x1.1, (0 : Int))) (f1 x0 x1)))))
theorem e0 (k : Nat) : u0 k = t0 (l1 k) := by kernel_rfl
theorem d0 {x1 y1 : T1} (h1 : x1 = y1) : t0 x1 = t0 y1 := by subst h1; rfl
def p0 (k : Nat) : T0 := t0 (p1 k)
theorem o0 (k : Nat) : u0 k = p0 k := (Eq.trans (b := t0 (l1 k)) (e0 k) (Eq.trans (b := t0 (p1 k)) (d0 (o1 k)) (by kernel_rfl)))
end ref03_Near
def s_ref03_Near (a : (List UInt8) × (((Int) × (Int)) × (Unit))) : Option ((Int) × (Unit)) := ref03_Near.p0 (fuel) a.1 a.2.1
noncomputable def F_ref03_Near : FSpec cx.toNm := { ps := [.val .str, .val (.agg (.pair (.int .i64) (.int .i64)))], nres := 1, rt := (.int .i64), rm := .ro, f := s_ref03_Near }
theorem ok_ref03_Near : FnOk Try.prog F_ref03_Near 56 := fn_of (hn := ref03_Near.h) (E := ref03_Near.E) cxOk (tysT _) (fs_cons ok_ref03_Lines (fs_cons ok_ref03_Width (fs_cons ok_ref03_At fs_nil))) follows Try.func56 (by kernel_rfl) (fun a r h => ⟨fuel, (congrFun (congrFun (ref03_Near.o0 (fuel)) a.1) a.2.1).trans h⟩)
namespace law03_PlaceUp
noncomputable def E : Env cx := { tys := tys, fs := fsOf [(40, F_rope_Of), (48, F_law03_alive), (53, F_place_Up), (54, F_ref03_Mark), (55, F_ref03_Lines), (56, F_ref03_Near)] }
abbrev R := Option ((Bool) × (Unit))
abbrev C := Exit → ST cx → R
noncomputable def b : Code := bodyC Try.f10
noncomputable def h : Hint := { vs := [0, 1, 2, 6, 7, 9, 10, 11], nil := [], cuts := [(8, ([0, 1, 2, 9, 10, 36], []), ([0, 1, 2, 9, 10], [])), (9, ([0, 1, 2, 9, 10], []), ([0, 1, 2, 9, 10], []))], ret := ([6], [7, 11]), ords := [] }
noncomputable def K0 : C := fin (S := cx) E Try.f10.results.toList .bool .ro [] []
noncomputable def c0 : Code := subC b [1]
noncomputable def K1 (k : Nat) : C := outD h c0 K0
noncomputable def K2 (k : Nat) : C := seqC E h k c0 K0
noncomputable def c1 : Code := subC b [1, 1]
noncomputable def K3 (k : Nat) : C := outD h c1 (K1 k)
noncomputable def K4 (k : Nat) : C := seqC E h k c1 (K1 k)
noncomputable def c2 : Code := subC b [1, 0, 1]
noncomputable def K5 (k : Nat) : C := outD h c2 (K4 k)
noncomputable def K6 (k : Nat) : C := seqC E h k c2 (K4 k)
noncomputable def c3 : Code := subC b [1, 0, 1, 0, 1]
noncomputable def K7 (k : Nat) : C := outD h c3 (K5 k)
noncomputable def K8 (k : Nat) : C := seqC E h k c3 (K5 k)
noncomputable def c4 : Code := subC b [1, 1, 1]
noncomputable def K9 (k : Nat) : C := outD h c4 (K3 k)
noncomputable def K10 (k : Nat) : C := seqC E h k c4 (K3 k)
noncomputable def c5 : Code := subC b [1, 1, 0, 1]
noncomputable def K11 (k : Nat) : C := outD h c5 (K10 k)
noncomputable def K12 (k : Nat) : C := seqC E h k c5 (K10 k)
noncomputable def c6 : Code := subC b [1, 1, 0, 1, 0, 1]
noncomputable def K13 (k : Nat) : C := outD h c6 (K11 k)
noncomputable def K14 (k : Nat) : C := seqC E h k c6 (K11 k)
noncomputable def c7 : Code := subC b [1, 1, 1, 1]
noncomputable def K15 (k : Nat) : C := outD h c7 (K9 k)
noncomputable def K16 (k : Nat) : C := seqC E h k c7 (K9 k)
noncomputable def c8 : Code := subC b [1, 1, 1, 1, 1]
noncomputable def K17 (k : Nat) : C := outD h c8 (K15 k)
noncomputable def K18 (k : Nat) : C := seqC E h k c8 (K15 k)
noncomputable def c9 : Code := subC b [1, 1, 1, 1, 1, 1]
noncomputable def K19 (k : Nat) : C := outD h c9 (K17 k)
noncomputable def K20 (k : Nat) : C := seqC E h k c9 (K17 k)
noncomputable def c10 : Code := subC b [1, 1, 1, 1, 1, 0, 1]
noncomputable def K21 (k : Nat) : C := outD h c10 (K20 k)
noncomputable def K22 (k : Nat) : C := seqC E h k c10 (K20 k)
noncomputable def c11 : Code := subC b [1, 1, 1, 1, 1, 0, 1, 0, 1]
noncomputable def K23 (k : Nat) : C := outD h c11 (K21 k)
noncomputable def K24 (k : Nat) : C := seqC E h k c11 (K21 k)
noncomputable def c12 : Code := subC b [1, 1, 1, 1, 1, 1, 1]
noncomputable def K25 (k : Nat) : C := outD h c12 (K19 k)
noncomputable def K26 (k : Nat) : C := seqC E h k c12 (K19 k)
noncomputable def c13 : Code := subC b [1, 1, 1, 1, 1, 1, 1, 1]
noncomputable def K27 (k : Nat) : C := outD h c13 (K25 k)
noncomputable def K28 (k : Nat) : C := seqC E h k c13 (K25 k)
noncomputable def c14 : Code := subC b [1, 1, 1, 1, 1, 1, 1, 0, 1]
noncomputable def K29 (k : Nat) : C := outD h c14 (K28 k)
noncomputable def K30 (k : Nat) : C := seqC E h k c14 (K28 k)
noncomputable def c15 : Code := subC b [1, 1, 1, 1, 1, 1, 1, 0, 1, 0, 1]
noncomputable def K31 (k : Nat) : C := outD h c15 (K29 k)
noncomputable def K32 (k : Nat) : C := seqC E h k c15 (K29 k)
noncomputable def c16 : Code := subC b [1, 1, 1, 1, 1, 1, 1, 1, 1]
noncomputable def K33 (k : Nat) : C := outD h c16 (K27 k)
noncomputable def K34 (k : Nat) : C := seqC E h k c16 (K27 k)
noncomputable def c17 : Code := subC b [1, 1, 1, 1, 1, 1, 1, 1, 0, 1]
noncomputable def K35 (k : Nat) : C := outD h c17 (K34 k)
noncomputable def K36 (k : Nat) : C := seqC E h k c17 (K34 k)
noncomputable def c18 : Code := subC b [1, 1, 1, 1, 1, 1, 1, 1, 0, 1, 0, 1]
noncomputable def K37 (k : Nat) : C := outD h c18 (K35 k)
noncomputable def K38 (k : Nat) : C := seqC E h k c18 (K35 k)
noncomputable def c19 : Code := subC b [1, 1, 1, 1, 1, 1, 1, 1, 1, 1]
noncomputable def K39 (k : Nat) : C := outD h c19 (K33 k)
noncomputable def K40 (k : Nat) : C := seqC E h k c19 (K33 k)
noncomputable def c20 : Code := subC b [1, 1, 1, 1, 1, 1, 1, 1, 1, 1, 1]
noncomputable def K41 (k : Nat) : C := outD h c20 (K39 k)
noncomputable def K42 (k : Nat) : C := seqC E h k c20 (K39 k)
abbrev T2 := (List UInt8) → Int → Int → Int → Int → R
abbrev T1 := (List UInt8) → Int → Int → Int → Int → Bool → R
abbrev T0 := (List UInt8) → Int → Int → R
abbrev s2 : (List UInt8) → Int → Int → Int → Int → ST cx := fun (x0 : List UInt8) (x1 x2 x9 x10 : Int) => ({ vars := [(0, .v .str .ro x0), (1, .v (.int .i64) .ro x1), (2, .v (.int .i64) .ro x2), (9, .v (.int .i64) .ro x9), (10, .v (.int .i64) .ro x10)], scr := [], mems := [] } : ST cx)
noncomputable def u2 (k : Nat) : T2 := fun (x0 : List UInt8) (x1 x2 x9 x10 : Int) => uK (run E h k c9) (s2 x0 x1 x2 x9 x10) (K19 k)
noncomputable abbrev l2 (k : Nat) : T2 := fun (x0 : List UInt8) (x1 x2 x9 x10 : Int) => cutK (run E h k c9) (s2 x0 x1 x2 x9 x10) (K19 k)
abbrev s1 : (List UInt8) → Int → Int → Int → Int → Bool → ST cx := fun (x0 : List UInt8) (x1 x2 x9 x10 : Int) (x36 : Bool) => ({ vars := [(0, .v .str .ro x0), (1, .v (.int .i64) .ro x1), (2, .v (.int .i64) .ro x2), (9, .v (.int .i64) .ro x9), (10, .v (.int .i64) .ro x10), (36, .v .bool .ro x36)], scr := [], mems := [] } : ST cx)
noncomputable def u1 (k : Nat) : T1 := fun (x0 : List UInt8) (x1 x2 x9 x10 : Int) (x36 : Bool) => uK (run E h k c10) (s1 x0 x1 x2 x9 x10 x36) (K21 k)
noncomputable abbrev l1 (k : Nat) : T1 := fun (x0 : List UInt8) (x1 x2 x9 x10 : Int) (x36 : Bool) => cutK (run E h k c10) (s1 x0 x1 x2 x9 x10 x36) (K21 k)
noncomputable def u0 (k : Nat) : T0 := fun (x0 : List UInt8) (x1 x2 : Int) => runOf (S := cx) E h k Try.f10 [.val .str, .val (.int .i64), .val (.int .i64)] .bool .ro (x0, x1, x2, ())
def t2 : T2 := fun (x0 : List UInt8) (x1 x2 x9 x10 : Int) => 
  (bindR (s_ref03_Mark (x0, (x1, ()))) fun r4 => (iteB (decide (r4.1.1 < x2)) (iteB (decide (x10 = (0 : Int))) (some ((decide (x9 = (0 : Int))), ())) (some (false, ()))) (bindR (s_ref03_Lines (x0, ())) fun r5 => (iteB (decide (x2 < (w64 (r4.1.1 - r5.1)))) (iteB (decide (x10 = (0 : Int))) (some ((decide (x9 = ((List.length x0 : Nat) : Int))), ())) (some (false, ()))) (iteB (decide (x10 = (0 : Int))) (bindR (s_ref03_Near (x0, (((w64 (r4.1.1 - x2)), r4.1.2), ()))) fun r6 => (some ((decide (x9 = r6.1)), ()))) (some (false, ())))))))
theorem e2 (k : Nat) : u2 k = t2 := by kernel_rfl
theorem g2 (k : Nat) : l2 k = u2 k := funext fun _ => funext fun _ => funext fun _ => funext fun _ => funext fun _ => cut_u _ _ _
def p2 (k : Nat) : T2 := t2
theorem o2 (k : Nat) : l2 k = p2 k := (Eq.trans (b := u2 k) (g2 k) (Eq.trans (b := t2) (e2 k) (by kernel_rfl)))
def t1 (f2 : T2) : T1 := fun (x0 : List UInt8) (x1 x2 x9 x10 : Int) (x36 : Bool) => 
  (iteB x36 (iteB (decide (x9 = (0 : Int))) (some ((decide (x10 = (3 : Int))), ())) (some (false, ()))) (f2 x0 x1 x2 x9 x10))
theorem e1 (k : Nat) : u1 k = t1 (l2 k) := by kernel_rfl
theorem g1 (k : Nat) : l1 k = u1 k := funext fun _ => funext fun _ => funext fun _ => funext fun _ => funext fun _ => funext fun _ => cut_u _ _ _
theorem d1 {x2 y2 : T2} (h2 : x2 = y2) : t1 x2 = t1 y2 := by subst h2; rfl
def p1 (k : Nat) : T1 := t1 (p2 k)
theorem o1 (k : Nat) : l1 k = p1 k := (Eq.trans (b := u1 k) (g1 k) (Eq.trans (b := t1 (l2 k)) (e1 k) (Eq.trans (b := t1 (p2 k)) (d1 (o2 k)) (by kernel_rfl))))
def t0 (f1 : T1) : T0 := fun (x0 : List UInt8) (x1 x2 : Int) => 
  (bindR (s_law03_alive ()) fun r1 => (iteB (notB r1.1) (some (false, ())) (iteB (decide ((200 : Int) < ((List.length x0 : Nat) : Int))) (some (true, ())) (bindR (s_rope_Of (x0, ())) fun r2 => (bindR (s_place_Up (r2.1.1, (x1, (x2, ())))) fun r3 => (iteB (decide (x1 < (0 : Int))) (f1 x0 x1 x2 r3.1.1 r3.1.2 true) (f1 x0 x1 x2 r3.1.1 r3.1.2 (decide (((List.length x0 : Nat) : Int) < x1)))))))))
theorem e0 (k : Nat) : u0 k = t0 (l1 k) := by kernel_rfl
theorem d0 {x1 y1 : T1} (h1 : x1 = y1) : t0 x1 = t0 y1 := by subst h1; rfl
def p0 (k : Nat) : T0 := t0 (p1 k)
theorem o0 (k : Nat) : u0 k = p0 k := (Eq.trans (b := t0 (l1 k)) (e0 k) (Eq.trans (b := t0 (p1 k)) (d0 (o1 k)) (by kernel_rfl)))
end law03_PlaceUp
def s_law03_PlaceUp (a : (List UInt8) × ((Int) × ((Int) × (Unit)))) : Option ((Bool) × (Unit)) := law03_PlaceUp.p0 (fuel) a.1 a.2.1 a.2.2.1
noncomputable def F_law03_PlaceUp : FSpec cx.toNm := { ps := [.val .str, .val (.int .i64), .val (.int .i64)], nres := 1, rt := .bool, rm := .ro, f := s_law03_PlaceUp }
theorem ok_law03_PlaceUp : FnOk Try.prog F_law03_PlaceUp 10 := fn_of (hn := law03_PlaceUp.h) (E := law03_PlaceUp.E) cxOk (tysT _) (fs_cons ok_rope_Of (fs_cons ok_law03_alive (fs_cons ok_place_Up (fs_cons ok_ref03_Mark (fs_cons ok_ref03_Lines (fs_cons ok_ref03_Near fs_nil)))))) follows Try.func10 (by kernel_rfl) (fun a r h => ⟨fuel, (congrFun (congrFun (congrFun (law03_PlaceUp.o0 (fuel)) a.1) a.2.1) a.2.2.1).trans h⟩)
namespace place_Span
noncomputable def E : Env cx := { tys := tys, fs := fsOf [(101, F_place_find)] }
abbrev R := Option (((Int) × ((Int) × (Int))) × (Unit))
abbrev C := Exit → ST cx → R
noncomputable def b : Code := bodyC Try.f57
noncomputable def h : Hint := { vs := [0, 1, 2, 4, 5, 6, 7, 8], nil := [], cuts := [], ret := ([4, 5, 6], [2, 7]), ords := [] }
noncomputable def K0 : C := fin (S := cx) E Try.f57.results.toList (.pair (.int .i64) (.pair (.int .i64) (.int .i64))) .ro [] []
noncomputable def c0 : Code := subC b [1]
noncomputable def K1 (k : Nat) : C := outD h c0 K0
noncomputable def K2 (k : Nat) : C := seqC E h k c0 K0
noncomputable def c1 : Code := subC b [1, 1]
noncomputable def K3 (k : Nat) : C := outD h c1 (K1 k)
noncomputable def K4 (k : Nat) : C := seqC E h k c1 (K1 k)
noncomputable def c2 : Code := subC b [1, 1, 1]
noncomputable def K5 (k : Nat) : C := outD h c2 (K3 k)
noncomputable def K6 (k : Nat) : C := seqC E h k c2 (K3 k)
noncomputable def c3 : Code := subC b [1, 1, 0, 1]
noncomputable def K7 (k : Nat) : C := outD h c3 (K6 k)
noncomputable def K8 (k : Nat) : C := seqC E h k c3 (K6 k)
noncomputable def c4 : Code := subC b [1, 1, 0, 1, 0, 1]
noncomputable def K9 (k : Nat) : C := outD h c4 (K7 k)
noncomputable def K10 (k : Nat) : C := seqC E h k c4 (K7 k)
noncomputable def c5 : Code := subC b [1, 1, 1, 1]
noncomputable def K11 (k : Nat) : C := outD h c5 (K5 k)
noncomputable def K12 (k : Nat) : C := seqC E h k c5 (K5 k)
abbrev T0 := (Option N0) → Int → R
noncomputable def u0 (k : Nat) : T0 := fun (x0 : Option N0) (x1 : Int) => runOf (S := cx) E h k Try.f57 [.val (.agg (.ptr 0)), .val (.int .i64)] (.pair (.int .i64) (.pair (.int .i64) (.int .i64))) .ro (x0, x1, ())
def t0 : T0 := fun (x0 : Option N0) (x1 : Int) => 
  (bindR (s_place_find (x0, (x1, ()))) fun r1 => (iteB (notB r1.1.2) (some (((0 : Int), ((0 : Int), (3 : Int))), ())) (some ((r1.1.1.1.1, (r1.1.1.1.2, (0 : Int))), ()))))
theorem e0 (k : Nat) : u0 k = t0 := by kernel_rfl
def p0 (k : Nat) : T0 := t0
theorem o0 (k : Nat) : u0 k = p0 k := (Eq.trans (b := t0) (e0 k) (by kernel_rfl))
end place_Span
def s_place_Span (a : (Option N0) × ((Int) × (Unit))) : Option (((Int) × ((Int) × (Int))) × (Unit)) := place_Span.p0 (fuel) a.1 a.2.1
noncomputable def F_place_Span : FSpec cx.toNm := { ps := [.val (.agg (.ptr 0)), .val (.int .i64)], nres := 3, rt := (.pair (.int .i64) (.pair (.int .i64) (.int .i64))), rm := .ro, f := s_place_Span }
theorem ok_place_Span : FnOk Try.prog F_place_Span 57 := fn_of (hn := place_Span.h) (E := place_Span.E) cxOk (tysT _) (fs_cons ok_place_find fs_nil) follows Try.func57 (by kernel_rfl) (fun a r h => ⟨fuel, (congrFun (congrFun (place_Span.o0 (fuel)) a.1) a.2.1).trans h⟩)
namespace place_Width
noncomputable def E : Env cx := { tys := tys, fs := fsOf [(101, F_place_find)] }
abbrev R := Option (((Int) × (Int)) × (Unit))
abbrev C := Exit → ST cx → R
noncomputable def b : Code := bodyC Try.f58
noncomputable def h : Hint := { vs := [0, 1, 2, 4, 5, 6, 7], nil := [], cuts := [], ret := ([4, 5], [2, 6]), ords := [] }
noncomputable def K0 : C := fin (S := cx) E Try.f58.results.toList (.pair (.int .i64) (.int .i64)) .ro [] []
noncomputable def c0 : Code := subC b [1]
noncomputable def K1 (k : Nat) : C := outD h c0 K0
noncomputable def K2 (k : Nat) : C := seqC E h k c0 K0
noncomputable def c1 : Code := subC b [1, 1]
noncomputable def K3 (k : Nat) : C := outD h c1 (K1 k)
noncomputable def K4 (k : Nat) : C := seqC E h k c1 (K1 k)
noncomputable def c2 : Code := subC b [1, 1, 1]
noncomputable def K5 (k : Nat) : C := outD h c2 (K3 k)
noncomputable def K6 (k : Nat) : C := seqC E h k c2 (K3 k)
noncomputable def c3 : Code := subC b [1, 1, 0, 1]
noncomputable def K7 (k : Nat) : C := outD h c3 (K6 k)
noncomputable def K8 (k : Nat) : C := seqC E h k c3 (K6 k)
noncomputable def c4 : Code := subC b [1, 1, 0, 1, 0, 1]
noncomputable def K9 (k : Nat) : C := outD h c4 (K7 k)
noncomputable def K10 (k : Nat) : C := seqC E h k c4 (K7 k)
noncomputable def c5 : Code := subC b [1, 1, 1, 1]
noncomputable def K11 (k : Nat) : C := outD h c5 (K5 k)
noncomputable def K12 (k : Nat) : C := seqC E h k c5 (K5 k)
abbrev T0 := (Option N0) → Int → R
noncomputable def u0 (k : Nat) : T0 := fun (x0 : Option N0) (x1 : Int) => runOf (S := cx) E h k Try.f58 [.val (.agg (.ptr 0)), .val (.int .i64)] (.pair (.int .i64) (.int .i64)) .ro (x0, x1, ())
def t0 : T0 := fun (x0 : Option N0) (x1 : Int) => 
  (bindR (s_place_find (x0, (x1, ()))) fun r1 => (iteB (notB r1.1.2) (some (((0 : Int), (3 : Int)), ())) (some ((r1.1.1.2, (0 : Int)), ()))))
theorem e0 (k : Nat) : u0 k = t0 := by kernel_rfl
def p0 (k : Nat) : T0 := t0
theorem o0 (k : Nat) : u0 k = p0 k := (Eq.trans (b := t0) (e0 k) (by kernel_rfl))
end place_Width
def s_place_Width (a : (Option N0) × ((Int) × (Unit))) : Option (((Int) × (Int)) × (Unit)) := place_Width.p0 (fuel) a.1 a.2.1
noncomputable def F_place_Width : FSpec cx.toNm := { ps := [.val (.agg (.ptr 0)), .val (.int .i64)], nres := 2, rt := (.pair (.int .i64) (.int .i64)), rm := .ro, f := s_place_Width }
theorem ok_place_Width : FnOk Try.prog F_place_Width 58 := fn_of (hn := place_Width.h) (E := place_Width.E) cxOk (tysT _) (fs_cons ok_place_find fs_nil) follows Try.func58 (by kernel_rfl) (fun a r h => ⟨fuel, (congrFun (congrFun (place_Width.o0 (fuel)) a.1) a.2.1).trans h⟩)
namespace law03_PlaceLines
noncomputable def E : Env cx := { tys := tys, fs := fsOf [(40, F_rope_Of), (48, F_law03_alive), (57, F_place_Span), (58, F_place_Width), (59, F_ref03_Span), (60, F_ref03_Width)] }
abbrev R := Option ((Bool) × (Unit))
abbrev C := Exit → ST cx → R
noncomputable def b : Code := bodyC Try.f11
noncomputable def h : Hint := { vs := [0, 1, 4, 5, 7, 8, 9, 10, 11, 12, 13], nil := [], cuts := [], ret := ([4], [5]), ords := [] }
noncomputable def K0 : C := fin (S := cx) E Try.f11.results.toList .bool .ro [] []
noncomputable def c0 : Code := subC b [1]
noncomputable def K1 (k : Nat) : C := outD h c0 K0
noncomputable def K2 (k : Nat) : C := seqC E h k c0 K0
noncomputable def c1 : Code := subC b [1, 1]
noncomputable def K3 (k : Nat) : C := outD h c1 (K1 k)
noncomputable def K4 (k : Nat) : C := seqC E h k c1 (K1 k)
noncomputable def c2 : Code := subC b [1, 0, 1]
noncomputable def K5 (k : Nat) : C := outD h c2 (K4 k)
noncomputable def K6 (k : Nat) : C := seqC E h k c2 (K4 k)
noncomputable def c3 : Code := subC b [1, 0, 1, 0, 1]
noncomputable def K7 (k : Nat) : C := outD h c3 (K5 k)
noncomputable def K8 (k : Nat) : C := seqC E h k c3 (K5 k)
noncomputable def c4 : Code := subC b [1, 1, 1]
noncomputable def K9 (k : Nat) : C := outD h c4 (K3 k)
noncomputable def K10 (k : Nat) : C := seqC E h k c4 (K3 k)
noncomputable def c5 : Code := subC b [1, 1, 0, 1]
noncomputable def K11 (k : Nat) : C := outD h c5 (K10 k)
noncomputable def K12 (k : Nat) : C := seqC E h k c5 (K10 k)
noncomputable def c6 : Code := subC b [1, 1, 0, 1, 0, 1]
noncomputable def K13 (k : Nat) : C := outD h c6 (K11 k)
noncomputable def K14 (k : Nat) : C := seqC E h k c6 (K11 k)
noncomputable def c7 : Code := subC b [1, 1, 1, 1]
noncomputable def K15 (k : Nat) : C := outD h c7 (K9 k)
noncomputable def K16 (k : Nat) : C := seqC E h k c7 (K9 k)
noncomputable def c8 : Code := subC b [1, 1, 1, 1, 1]
noncomputable def K17 (k : Nat) : C := outD h c8 (K15 k)
noncomputable def K18 (k : Nat) : C := seqC E h k c8 (K15 k)
noncomputable def c9 : Code := subC b [1, 1, 1, 1, 1, 1]
noncomputable def K19 (k : Nat) : C := outD h c9 (K17 k)
noncomputable def K20 (k : Nat) : C := seqC E h k c9 (K17 k)
noncomputable def c10 : Code := subC b [1, 1, 1, 1, 1, 1, 1]
noncomputable def K21 (k : Nat) : C := outD h c10 (K19 k)
noncomputable def K22 (k : Nat) : C := seqC E h k c10 (K19 k)
noncomputable def c11 : Code := subC b [1, 1, 1, 1, 1, 1, 1, 1]
noncomputable def K23 (k : Nat) : C := outD h c11 (K21 k)
noncomputable def K24 (k : Nat) : C := seqC E h k c11 (K21 k)
noncomputable def c12 : Code := subC b [1, 1, 1, 1, 1, 1, 1, 0, 1]
noncomputable def K25 (k : Nat) : C := outD h c12 (K24 k)
noncomputable def K26 (k : Nat) : C := seqC E h k c12 (K24 k)
noncomputable def c13 : Code := subC b [1, 1, 1, 1, 1, 1, 1, 0, 1, 0, 1]
noncomputable def K27 (k : Nat) : C := outD h c13 (K25 k)
noncomputable def K28 (k : Nat) : C := seqC E h k c13 (K25 k)
noncomputable def c14 : Code := subC b [1, 1, 1, 1, 1, 1, 1, 1, 1]
noncomputable def K29 (k : Nat) : C := outD h c14 (K23 k)
noncomputable def K30 (k : Nat) : C := seqC E h k c14 (K23 k)
abbrev T0 := (List UInt8) → Int → R
noncomputable def u0 (k : Nat) : T0 := fun (x0 : List UInt8) (x1 : Int) => runOf (S := cx) E h k Try.f11 [.val .str, .val (.int .i64)] .bool .ro (x0, x1, ())
def t0 : T0 := fun (x0 : List UInt8) (x1 : Int) => 
  (bindR (s_law03_alive ()) fun r1 => (iteB (notB r1.1) (some (false, ())) (iteB (decide ((300 : Int) < ((List.length x0 : Nat) : Int))) (some (true, ())) (bindR (s_rope_Of (x0, ())) fun r2 => (bindR (s_place_Span (r2.1.1, (x1, ()))) fun r3 => (bindR (s_place_Width (r2.1.1, (x1, ()))) fun r4 => (bindR (s_ref03_Span (x0, (x1, ()))) fun r5 => (iteB (decide (r5.1.1 < (0 : Int))) (iteB (decide (r3.1.1 = (0 : Int))) (iteB (decide (r3.1.2.1 = (0 : Int))) (iteB (decide (r3.1.2.2 = (3 : Int))) (iteB (decide (r4.1.1 = (0 : Int))) (some ((decide (r4.1.2 = (3 : Int))), ())) (some (false, ()))) (some (false, ()))) (some (false, ()))) (some (false, ()))) (iteB (decide (r3.1.2.2 = (0 : Int))) (iteB (decide (r4.1.2 = (0 : Int))) (iteB (decide (r3.1.1 = r5.1.1)) (iteB (decide (r3.1.2.1 = r5.1.2)) (bindR (s_ref03_Width (x0, (x1, ()))) fun r6 => (some ((decide (r4.1.1 = r6.1)), ()))) (some (false, ()))) (some (false, ()))) (some (false, ()))) (some (false, ())))))))))))
theorem e0 (k : Nat) : u0 k = t0 := by kernel_rfl
def p0 (k : Nat) : T0 := t0
theorem o0 (k : Nat) : u0 k = p0 k := (Eq.trans (b := t0) (e0 k) (by kernel_rfl))
end law03_PlaceLines
def s_law03_PlaceLines (a : (List UInt8) × ((Int) × (Unit))) : Option ((Bool) × (Unit)) := law03_PlaceLines.p0 (fuel) a.1 a.2.1
noncomputable def F_law03_PlaceLines : FSpec cx.toNm := { ps := [.val .str, .val (.int .i64)], nres := 1, rt := .bool, rm := .ro, f := s_law03_PlaceLines }
theorem ok_law03_PlaceLines : FnOk Try.prog F_law03_PlaceLines 11 := fn_of (hn := law03_PlaceLines.h) (E := law03_PlaceLines.E) cxOk (tysT _) (fs_cons ok_rope_Of (fs_cons ok_law03_alive (fs_cons ok_place_Span (fs_cons ok_place_Width (fs_cons ok_ref03_Span (fs_cons ok_ref03_Width fs_nil)))))) follows Try.func11 (by kernel_rfl) (fun a r h => ⟨fuel, (congrFun (congrFun (law03_PlaceLines.o0 (fuel)) a.1) a.2.1).trans h⟩)
namespace runes_Edge
noncomputable def E : Env cx := { tys := tys, fs := fsOf [(128, F_runes_isFollower)] }
abbrev R := Option ((Bool) × (Unit))
abbrev C := Exit → ST cx → R
noncomputable def b : Code := bodyC Try.f106
noncomputable def h : Hint := { vs := [0, 1, 4], nil := [], cuts := [], ret := ([4], []), ords := [] }
noncomputable def K0 : C := fin (S := cx) E Try.f106.results.toList .bool .ro [] []
noncomputable def c0 : Code := subC b [1]
noncomputable def K1 (k : Nat) : C := outD h c0 K0
noncomputable def K2 (k : Nat) : C := seqC E h k c0 K0
noncomputable def c1 : Code := subC b [1, 1]
noncomputable def K3 (k : Nat) : C := outD h c1 (K1 k)
noncomputable def K4 (k : Nat) : C := seqC E h k c1 (K1 k)
abbrev T0 := (List UInt8) → Int → R
noncomputable def u0 (k : Nat) : T0 := fun (x0 : List UInt8) (x1 : Int) => runOf (S := cx) E h k Try.f106 [.val .str, .val (.int .i64)] .bool .ro (x0, x1, ())
def t0 : T0 := fun (x0 : List UInt8) (x1 : Int) => 
  (iteB (decide (x1 = ((List.length x0 : Nat) : Int))) (some (true, ())) (iteB (decide ((0 : Int) ≤ x1)) (iteB (decide (x1 < ((List.length x0 : Nat) : Int))) (withinR x1 (List.length x0) fun q1 => (bindR (s_runes_isFollower ((byteAt x0 q1), ())) fun r2 => (some ((notB r2.1), ())))) (some (false, ()))) (some (false, ()))))
theorem e0 (k : Nat) : u0 k = t0 := by kernel_rfl
def p0 (k : Nat) : T0 := t0
theorem o0 (k : Nat) : u0 k = p0 k := (Eq.trans (b := t0) (e0 k) (by kernel_rfl))
end runes_Edge
def s_runes_Edge (a : (List UInt8) × ((Int) × (Unit))) : Option ((Bool) × (Unit)) := runes_Edge.p0 (fuel) a.1 a.2.1
noncomputable def F_runes_Edge : FSpec cx.toNm := { ps := [.val .str, .val (.int .i64)], nres := 1, rt := .bool, rm := .ro, f := s_runes_Edge }
theorem ok_runes_Edge : FnOk Try.prog F_runes_Edge 106 := fn_of (hn := runes_Edge.h) (E := runes_Edge.E) cxOk (tysT _) (fs_cons ok_runes_isFollower fs_nil) follows Try.func106 (by kernel_rfl) (fun a r h => ⟨fuel, (congrFun (congrFun (runes_Edge.o0 (fuel)) a.1) a.2.1).trans h⟩)
namespace place_Edge
noncomputable def E : Env cx := { tys := tys, fs := fsOf [(45, F_rope_Rope_Len), (94, F_rope_Rope_At), (106, F_runes_Edge)] }
abbrev R := Option ((Bool) × (Unit))
abbrev C := Exit → ST cx → R
noncomputable def b : Code := bodyC Try.f62
noncomputable def h : Hint := { vs := [0, 1, 2, 4, 5, 6], nil := [], cuts := [], ret := ([4], [2]), ords := [] }
noncomputable def K0 : C := fin (S := cx) E Try.f62.results.toList .bool .ro [] []
noncomputable def c0 : Code := subC b [1]
noncomputable def K1 (k : Nat) : C := outD h c0 K0
noncomputable def K2 (k : Nat) : C := seqC E h k c0 K0
noncomputable def c1 : Code := subC b [1, 1]
noncomputable def K3 (k : Nat) : C := outD h c1 (K1 k)
noncomputable def K4 (k : Nat) : C := seqC E h k c1 (K1 k)
noncomputable def c2 : Code := subC b [1, 0, 1]
noncomputable def K5 (k : Nat) : C := outD h c2 (K4 k)
noncomputable def K6 (k : Nat) : C := seqC E h k c2 (K4 k)
noncomputable def c3 : Code := subC b [1, 0, 1, 0, 1]
noncomputable def K7 (k : Nat) : C := outD h c3 (K5 k)
noncomputable def K8 (k : Nat) : C := seqC E h k c3 (K5 k)
noncomputable def c4 : Code := subC b [1, 1, 1]
noncomputable def K9 (k : Nat) : C := outD h c4 (K3 k)
noncomputable def K10 (k : Nat) : C := seqC E h k c4 (K3 k)
noncomputable def c5 : Code := subC b [1, 1, 1, 1]
noncomputable def K11 (k : Nat) : C := outD h c5 (K9 k)
noncomputable def K12 (k : Nat) : C := seqC E h k c5 (K9 k)
abbrev T0 := (Option N0) → Int → R
noncomputable def u0 (k : Nat) : T0 := fun (x0 : Option N0) (x1 : Int) => runOf (S := cx) E h k Try.f62 [.val (.agg (.ptr 0)), .val (.int .i64)] .bool .ro (x0, x1, ())
def t0 : T0 := fun (x0 : Option N0) (x1 : Int) => 
  (bindR (s_rope_Rope_Len (x0, ())) fun r1 => (iteB (decide (x1 = r1.1)) (some (true, ())) (bindR (s_rope_Rope_At (x0, (x1, ()))) fun r2 => (iteB r2.1.2 (bindR (s_runes_Edge ((bytesOf ([r2.1.1] : List (Int))), ((0 : Int), ()))) fun r3 => (some (r3.1, ()))) (some (false, ()))))))
theorem e0 (k : Nat) : u0 k = t0 := by kernel_rfl
def p0 (k : Nat) : T0 := t0
theorem o0 (k : Nat) : u0 k = p0 k := (Eq.trans (b := t0) (e0 k) (by kernel_rfl))
end place_Edge
def s_place_Edge (a : (Option N0) × ((Int) × (Unit))) : Option ((Bool) × (Unit)) := place_Edge.p0 (fuel) a.1 a.2.1
noncomputable def F_place_Edge : FSpec cx.toNm := { ps := [.val (.agg (.ptr 0)), .val (.int .i64)], nres := 1, rt := .bool, rm := .ro, f := s_place_Edge }
theorem ok_place_Edge : FnOk Try.prog F_place_Edge 62 := fn_of (hn := place_Edge.h) (E := place_Edge.E) cxOk (tysT _) (fs_cons ok_rope_Rope_Len (fs_cons ok_rope_Rope_At (fs_cons ok_runes_Edge fs_nil))) follows Try.func62 (by kernel_rfl) (fun a r h => ⟨fuel, (congrFun (congrFun (place_Edge.o0 (fuel)) a.1) a.2.1).trans h⟩)
namespace law03_PlaceMarks
noncomputable def E : Env cx := { tys := tys, fs := fsOf [(40, F_rope_Of), (48, F_law03_alive), (50, F_place_Mark), (52, F_ref01_Edge), (54, F_ref03_Mark), (55, F_ref03_Lines), (61, F_place_Lines), (62, F_place_Edge)] }
abbrev R := Option ((Bool) × (Unit))
abbrev C := Exit → ST cx → R
noncomputable def b : Code := bodyC Try.f12
noncomputable def h : Hint := { vs := [0, 1, 4, 5, 7, 8], nil := [], cuts := [(8, ([0, 1, 7, 8, 38], [7]), ([0, 1, 7, 8], [7])), (9, ([0, 1, 7, 8], [7]), ([0, 1, 7, 8], [7])), (10, ([0, 1, 7, 8, 46], [7]), ([0, 1, 7, 8], [7])), (11, ([0, 1, 7, 8], [7]), ([0, 1, 7, 8], [7]))], ret := ([4], [5, 7]), ords := [] }
noncomputable def K0 : C := fin (S := cx) E Try.f12.results.toList .bool .ro [] []
noncomputable def c0 : Code := subC b [1]
noncomputable def K1 (k : Nat) : C := outD h c0 K0
noncomputable def K2 (k : Nat) : C := seqC E h k c0 K0
noncomputable def c1 : Code := subC b [1, 1]
noncomputable def K3 (k : Nat) : C := outD h c1 (K1 k)
noncomputable def K4 (k : Nat) : C := seqC E h k c1 (K1 k)
noncomputable def c2 : Code := subC b [1, 0, 1]
noncomputable def K5 (k : Nat) : C := outD h c2 (K4 k)
noncomputable def K6 (k : Nat) : C := seqC E h k c2 (K4 k)
noncomputable def c3 : Code := subC b [1, 0, 1, 0, 1]
noncomputable def K7 (k : Nat) : C := outD h c3 (K5 k)
noncomputable def K8 (k : Nat) : C := seqC E h k c3 (K5 k)
noncomputable def c4 : Code := subC b [1, 1, 1]
noncomputable def K9 (k : Nat) : C := outD h c4 (K3 k)
noncomputable def K10 (k : Nat) : C := seqC E h k c4 (K3 k)
noncomputable def c5 : Code := subC b [1, 1, 0, 1]
noncomputable def K11 (k : Nat) : C := outD h c5 (K10 k)
noncomputable def K12 (k : Nat) : C := seqC E h k c5 (K10 k)
noncomputable def c6 : Code := subC b [1, 1, 0, 1, 0, 1]
noncomputable def K13 (k : Nat) : C := outD h c6 (K11 k)
noncomputable def K14 (k : Nat) : C := seqC E h k c6 (K11 k)
noncomputable def c7 : Code := subC b [1, 1, 1, 1]
noncomputable def K15 (k : Nat) : C := outD h c7 (K9 k)
noncomputable def K16 (k : Nat) : C := seqC E h k c7 (K9 k)
noncomputable def c8 : Code := subC b [1, 1, 1, 1, 1]
noncomputable def K17 (k : Nat) : C := outD h c8 (K15 k)
noncomputable def K18 (k : Nat) : C := seqC E h k c8 (K15 k)
noncomputable def c9 : Code := subC b [1, 1, 1, 1, 1, 1]
noncomputable def K19 (k : Nat) : C := outD h c9 (K17 k)
noncomputable def K20 (k : Nat) : C := seqC E h k c9 (K17 k)
noncomputable def c10 : Code := subC b [1, 1, 1, 1, 1, 0, 1]
noncomputable def K21 (k : Nat) : C := outD h c10 (K20 k)
noncomputable def K22 (k : Nat) : C := seqC E h k c10 (K20 k)
noncomputable def c11 : Code := subC b [1, 1, 1, 1, 1, 0, 1, 0, 1]
noncomputable def K23 (k : Nat) : C := outD h c11 (K21 k)
noncomputable def K24 (k : Nat) : C := seqC E h k c11 (K21 k)
noncomputable def c12 : Code := subC b [1, 1, 1, 1, 1, 1, 1]
noncomputable def K25 (k : Nat) : C := outD h c12 (K19 k)
noncomputable def K26 (k : Nat) : C := seqC E h k c12 (K19 k)
noncomputable def c13 : Code := subC b [1, 1, 1, 1, 1, 1, 0, 1]
noncomputable def K27 (k : Nat) : C := outD h c13 (K26 k)
noncomputable def K28 (k : Nat) : C := seqC E h k c13 (K26 k)
noncomputable def c14 : Code := subC b [1, 1, 1, 1, 1, 1, 0, 1, 0, 1]
noncomputable def K29 (k : Nat) : C := outD h c14 (K27 k)
noncomputable def K30 (k : Nat) : C := seqC E h k c14 (K27 k)
noncomputable def c15 : Code := subC b [1, 1, 1, 1, 1, 1, 1, 1]
noncomputable def K31 (k : Nat) : C := outD h c15 (K25 k)
noncomputable def K32 (k : Nat) : C := seqC E h k c15 (K25 k)
abbrev T4 := (List UInt8) → Int → Int → ((Int) × (Int)) → R
abbrev T3 := (List UInt8) → Int → Int → Bool → ((Int) × (Int)) → R
abbrev T2 := (List UInt8) → Int → Int → ((Int) × (Int)) → R
abbrev T1 := (List UInt8) → Int → Int → Bool → ((Int) × (Int)) → R
abbrev T0 := (List UInt8) → Int → R
abbrev s4 : (List UInt8) → Int → Int → ((Int) × (Int)) → ST cx := fun (x0 : List UInt8) (x1 x8 : Int) (m7 : (Int) × (Int)) => ({ vars := [(0, .v .str .ro x0), (1, .v (.int .i64) .ro x1), (7, .addr (.mem 7) []), (8, .v (.int .i64) .ro x8)], scr := [], mems := [(7, ⟨(.agg (.pair (.int .i64) (.int .i64))), .ro, m7⟩)] } : ST cx)
noncomputable def u4 (k : Nat) : T4 := fun (x0 : List UInt8) (x1 x8 : Int) (m7 : (Int) × (Int)) => uK (run E h k c12) (s4 x0 x1 x8 m7) (K25 k)
noncomputable abbrev l4 (k : Nat) : T4 := fun (x0 : List UInt8) (x1 x8 : Int) (m7 : (Int) × (Int)) => cutK (run E h k c12) (s4 x0 x1 x8 m7) (K25 k)
abbrev s3 : (List UInt8) → Int → Int → Bool → ((Int) × (Int)) → ST cx := fun (x0 : List UInt8) (x1 x8 : Int) (x46 : Bool) (m7 : (Int) × (Int)) => ({ vars := [(0, .v .str .ro x0), (1, .v (.int .i64) .ro x1), (7, .addr (.mem 7) []), (8, .v (.int .i64) .ro x8), (46, .v .bool .ro x46)], scr := [], mems := [(7, ⟨(.agg (.pair (.int .i64) (.int .i64))), .ro, m7⟩)] } : ST cx)
noncomputable def u3 (k : Nat) : T3 := fun (x0 : List UInt8) (x1 x8 : Int) (x46 : Bool) (m7 : (Int) × (Int)) => uK (run E h k c13) (s3 x0 x1 x8 x46 m7) (K27 k)
noncomputable abbrev l3 (k : Nat) : T3 := fun (x0 : List UInt8) (x1 x8 : Int) (x46 : Bool) (m7 : (Int) × (Int)) => cutK (run E h k c13) (s3 x0 x1 x8 x46 m7) (K27 k)
abbrev s2 : (List UInt8) → Int → Int → ((Int) × (Int)) → ST cx := fun (x0 : List UInt8) (x1 x8 : Int) (m7 : (Int) × (Int)) => ({ vars := [(0, .v .str .ro x0), (1, .v (.int .i64) .ro x1), (7, .addr (.mem 7) []), (8, .v (.int .i64) .ro x8)], scr := [], mems := [(7, ⟨(.agg (.pair (.int .i64) (.int .i64))), .ro, m7⟩)] } : ST cx)
noncomputable def u2 (k : Nat) : T2 := fun (x0 : List UInt8) (x1 x8 : Int) (m7 : (Int) × (Int)) => uK (run E h k c9) (s2 x0 x1 x8 m7) (K19 k)
noncomputable abbrev l2 (k : Nat) : T2 := fun (x0 : List UInt8) (x1 x8 : Int) (m7 : (Int) × (Int)) => cutK (run E h k c9) (s2 x0 x1 x8 m7) (K19 k)
abbrev s1 : (List UInt8) → Int → Int → Bool → ((Int) × (Int)) → ST cx := fun (x0 : List UInt8) (x1 x8 : Int) (x38 : Bool) (m7 : (Int) × (Int)) => ({ vars := [(0, .v .str .ro x0), (1, .v (.int .i64) .ro x1), (7, .addr (.mem 7) []), (8, .v (.int .i64) .ro x8), (38, .v .bool .ro x38)], scr := [], mems := [(7, ⟨(.agg (.pair (.int .i64) (.int .i64))), .ro, m7⟩)] } : ST cx)
noncomputable def u1 (k : Nat) : T1 := fun (x0 : List UInt8) (x1 x8 : Int) (x38 : Bool) (m7 : (Int) × (Int)) => uK (run E h k c10) (s1 x0 x1 x8 x38 m7) (K21 k)
noncomputable abbrev l1 (k : Nat) : T1 := fun (x0 : List UInt8) (x1 x8 : Int) (x38 : Bool) (m7 : (Int) × (Int)) => cutK (run E h k c10) (s1 x0 x1 x8 x38 m7) (K21 k)
noncomputable def u0 (k : Nat) : T0 := fun (x0 : List UInt8) (x1 : Int) => runOf (S := cx) E h k Try.f12 [.val .str, .val (.int .i64)] .bool .ro (x0, x1, ())
def t4 : T4 := fun (x0 : List UInt8) (x1 x8 : Int) (m7 : (Int) × (Int)) => 
  (iteB (decide (x8 = (0 : Int))) (bindR (s_ref03_Mark (x0, (x1, ()))) fun r8 => (some (((decide (m7.1 = r8.1.1)) && (decide (m7.2 = r8.1.2))), ()))) (some (false, ())))
theorem e4 (k : Nat) : u4 k = t4 := by kernel_rfl
theorem g4 (k : Nat) : l4 k = u4 k := funext fun _ => funext fun _ => funext fun _ => funext fun _ => cut_u _ _ _
def p4 (k : Nat) : T4 := t4
theorem o4 (k : Nat) : l4 k = p4 k := (Eq.trans (b := u4 k) (g4 k) (Eq.trans (b := t4) (e4 k) (by kernel_rfl)))
def t3 (f4 : T4) : T3 := fun (x0 : List UInt8) (x1 x8 : Int) (x46 : Bool) (m7 : (Int) × (Int)) => 
  (iteB x46 (iteB ((decide (m7.1 = (0 : Int))) && (decide (m7.2 = (0 : Int)))) (some ((decide (x8 = (3 : Int))), ())) (some (false, ()))) (f4 x0 x1 x8 m7))
theorem e3 (k : Nat) : u3 k = t3 (l4 k) := by kernel_rfl
theorem g3 (k : Nat) : l3 k = u3 k := funext fun _ => funext fun _ => funext fun _ => funext fun _ => funext fun _ => cut_u _ _ _
theorem d3 {x4 y4 : T4} (h4 : x4 = y4) : t3 x4 = t3 y4 := by subst h4; rfl
def p3 (k : Nat) : T3 := t3 (p4 k)
theorem o3 (k : Nat) : l3 k = p3 k := (Eq.trans (b := u3 k) (g3 k) (Eq.trans (b := t3 (l4 k)) (e3 k) (Eq.trans (b := t3 (p4 k)) (d3 (o4 k)) (by kernel_rfl))))
def t2 (f3 : T3) : T2 := fun (x0 : List UInt8) (x1 x8 : Int) (m7 : (Int) × (Int)) => 
  (iteB (decide (x1 < (0 : Int))) (f3 x0 x1 x8 true m7) (f3 x0 x1 x8 (decide (((List.length x0 : Nat) : Int) < x1)) m7))
theorem e2 (k : Nat) : u2 k = t2 (l3 k) := by kernel_rfl
theorem g2 (k : Nat) : l2 k = u2 k := funext fun _ => funext fun _ => funext fun _ => funext fun _ => cut_u _ _ _
theorem d2 {x3 y3 : T3} (h3 : x3 = y3) : t2 x3 = t2 y3 := by subst h3; rfl
def p2 (k : Nat) : T2 := t2 (p3 k)
theorem o2 (k : Nat) : l2 k = p2 k := (Eq.trans (b := u2 k) (g2 k) (Eq.trans (b := t2 (l3 k)) (e2 k) (Eq.trans (b := t2 (p3 k)) (d2 (o3 k)) (by kernel_rfl))))
def t1 (f2 : T2) : T1 := fun (x0 : List UInt8) (x1 x8 : Int) (x38 : Bool) (m7 : (Int) × (Int)) => 
  (iteB x38 (some (false, ())) (f2 x0 x1 x8 m7))
theorem e1 (k : Nat) : u1 k = t1 (l2 k) := by kernel_rfl
theorem g1 (k : Nat) : l1 k = u1 k := funext fun _ => funext fun _ => funext fun _ => funext fun _ => funext fun _ => cut_u _ _ _
theorem d1 {x2 y2 : T2} (h2 : x2 = y2) : t1 x2 = t1 y2 := by subst h2; rfl
def p1 (k : Nat) : T1 := t1 (p2 k)
theorem o1 (k : Nat) : l1 k = p1 k := (Eq.trans (b := u1 k) (g1 k) (Eq.trans (b := t1 (l2 k)) (e1 k) (Eq.trans (b := t1 (p2 k)) (d1 (o2 k)) (by kernel_rfl))))
def t0 (f1 : T1) : T0 := fun (x0 : List UInt8) (x1 : Int) => 
  (bindR (s_law03_alive ()) fun r1 => (iteB (notB r1.1) (some (false, ())) (iteB (decide ((500 : Int) < ((List.length x0 : Nat) : Int))) (some (true, ())) (bindR (s_rope_Of (x0, ())) fun r2 => (bindR (s_place_Mark (r2.1.1, (x1, ()))) fun r3 => (bindR (s_place_Lines (r2.1.1, ())) fun r4 => (bindR (s_ref03_Lines (x0, ())) fun r5 => (iteB (!decide (r4.1 = r5.1)) (f1 x0 x1 r3.1.2 true r3.1.1) (bindR (s_place_Edge (r2.1.1, (x1, ()))) fun r6 => (bindR (s_ref01_Edge (x0, (x1, ()))) fun r7 => (f1 x0 x1 r3.1.2 (!(r6.1 == r7.1)) r3.1.1)))))))))))
theorem e0 (k : Nat) : u0 k = t0 (l1 k) := by kernel_rfl
theorem d0 {x1 y1 : T1} (h1 : x1 = y1) : t0 x1 = t0 y1 := by subst h1; rfl
def p0 (k : Nat) : T0 := t0 (p1 k)
theorem o0 (k : Nat) : u0 k = p0 k := (Eq.trans (b := t0 (l1 k)) (e0 k) (Eq.trans (b := t0 (p1 k)) (d0 (o1 k)) (by kernel_rfl)))
end law03_PlaceMarks
def s_law03_PlaceMarks (a : (List UInt8) × ((Int) × (Unit))) : Option ((Bool) × (Unit)) := law03_PlaceMarks.p0 (fuel) a.1 a.2.1
noncomputable def F_law03_PlaceMarks : FSpec cx.toNm := { ps := [.val .str, .val (.int .i64)], nres := 1, rt := .bool, rm := .ro, f := s_law03_PlaceMarks }
theorem ok_law03_PlaceMarks : FnOk Try.prog F_law03_PlaceMarks 12 := fn_of (hn := law03_PlaceMarks.h) (E := law03_PlaceMarks.E) cxOk (tysT _) (fs_cons ok_rope_Of (fs_cons ok_law03_alive (fs_cons ok_place_Mark (fs_cons ok_ref01_Edge (fs_cons ok_ref03_Mark (fs_cons ok_ref03_Lines (fs_cons ok_place_Lines (fs_cons ok_place_Edge fs_nil)))))))) follows Try.func12 (by kernel_rfl) (fun a r h => ⟨fuel, (congrFun (congrFun (law03_PlaceMarks.o0 (fuel)) a.1) a.2.1).trans h⟩)
end
end Go.Proofs.Ytdifekkamjoepaa.Vm.Rp
