/- What the functions of nodes with labels compute, as plain functions; that they do. -/
import Derived.Test.YtdnkjfmneppkoaaLib
import Derived.Test.YtdnkjfmneppkoaaFns
import Derived.KernelRfl
namespace Go.Proofs.Ytdnkjfmneppkoaa.Vm.Tr
open Go Go.Proofs.Ytdnkjfmneppkoaa.Vm Go.Proofs Go.RowKit
set_option linter.unusedVariables false
set_option maxRecDepth 100000
noncomputable section
def q_ref15_OfL (a : (D2) × (Unit)) : Option ((Option (Nat × N2)) × Unit → Prop) := match s_ref15_Of (a.1, ()) with
  | some r => some fun r' => erO r'.1 = r.1
  | none => none
def F_ref15_OfL : FSpec cx.toNm := { ps := [.val ty2], nres := 1, rt := (.lptr 2), rm := .ro, f := fun _ => none, l := some q_ref15_OfL }
theorem ok_ref15_OfL : FnOk Try.prog F_ref15_OfL 18 := by
  refine FnOk.ofL (F := F_ref15_OfL) (q := q_ref15_OfL) ?_
  intro w Z own vs a p hZ hown hA hG hx
  match vs, hA with
  | [v0], hA =>
    obtain ⟨⟨c0, g0, k0⟩, _⟩ := hA
    have hx : (match s_ref15_Of (a.1, ()) with | some r => some (fun (r' : (Option (Nat × N2)) × Unit) => erO r'.1 = r.1) | none => none) = some p := hx
    cases hr : s_ref15_Of (a.1, ()) with
    | none => rw [hr] at hx; cases hx
    | some r =>
      rw [hr] at hx
      cases hx
      refine Enters.mono ((ok_ref15_Of.zero rfl rfl rfl) w Z own [v0] (a.1, ()) r hZ hown ⟨⟨c0, g0, k0⟩, trivial⟩ hG hr) fun v w' h => ?_
      obtain ⟨own', h1, h2, _⟩ := h
      obtain ⟨y, hy, h3⟩ := lab_res h2
      exact ⟨(y, ()), hy, own', h1, h3, trivial⟩
  | [], hA => exact (hA).elim
  | _ :: _ :: _, hA => exact (hA.2).elim
def s_law15_GreatE (a : (Option (Nat × N2)) × (Unit)) : Option ((Bool) × Unit) := s_law15_Great (erO a.1, ())
def F_law15_GreatE : FSpec cx.toNm := { ps := [.val (.lptr 2)], nres := 1, rt := .bool, rm := .ro, f := s_law15_GreatE }
theorem ok_law15_GreatE : FnOk Try.prog F_law15_GreatE 10 := by
  intro w Z own vs a r hZ hown hA hG hx
  match vs, hA with
  | [v0], hA =>
    obtain ⟨⟨c0, g0, k0⟩, _⟩ := hA
    exact (ok_law15_Great.zero rfl rfl rfl) w Z own [v0] (erO a.1, ()) r hZ hown ⟨⟨c0, g0, er_R k0⟩, trivial⟩ hG hx
  | [], hA => exact (hA).elim
  | _ :: _ :: _, hA => exact (hA.2).elim
def s_law15_bareE (a : (Option (Nat × N2)) × (Unit)) : Option ((Bool) × Unit) := s_law15_bare (erO a.1, ())
def F_law15_bareE : FSpec cx.toNm := { ps := [.val (.lptr 2)], nres := 1, rt := .bool, rm := .ro, f := s_law15_bareE }
theorem ok_law15_bareE : FnOk Try.prog F_law15_bareE 25 := by
  intro w Z own vs a r hZ hown hA hG hx
  match vs, hA with
  | [v0], hA =>
    obtain ⟨⟨c0, g0, k0⟩, _⟩ := hA
    exact (ok_law15_bare.zero rfl rfl rfl) w Z own [v0] (erO a.1, ()) r hZ hown ⟨⟨c0, g0, er_R k0⟩, trivial⟩ hG hx
  | [], hA => exact (hA).elim
  | _ :: _ :: _, hA => exact (hA.2).elim
def q_ref15_PutL (a : (Option (Nat × N2)) × ((List (Int)) × ((Option (Nat × N2)) × (Unit)))) : Option ((Option (Nat × N2)) × Unit → Prop) := match s_ref15_Put (erO a.1, (a.2.1, (erO a.2.2.1, ()))) with
  | some r => some fun r' => erO r'.1 = r.1
  | none => none
def F_ref15_PutL : FSpec cx.toNm := { ps := [.val (.lptr 2), .val (.slice 3 (.int .i64)), .val (.lptr 2)], nres := 1, rt := (.lptr 2), rm := .ro, f := fun _ => none, l := some q_ref15_PutL }
theorem ok_ref15_PutL : FnOk Try.prog F_ref15_PutL 26 := by
  refine FnOk.ofL (F := F_ref15_PutL) (q := q_ref15_PutL) ?_
  intro w Z own vs a p hZ hown hA hG hx
  match vs, hA with
  | [v0, v1, v2], hA =>
    obtain ⟨⟨c0, g0, k0⟩, ⟨⟨c1, g1, k1⟩, ⟨⟨c2, g2, k2⟩, _⟩⟩⟩ := hA
    have hx : (match s_ref15_Put (erO a.1, (a.2.1, (erO a.2.2.1, ()))) with | some r => some (fun (r' : (Option (Nat × N2)) × Unit) => erO r'.1 = r.1) | none => none) = some p := hx
    cases hr : s_ref15_Put (erO a.1, (a.2.1, (erO a.2.2.1, ()))) with
    | none => rw [hr] at hx; cases hx
    | some r =>
      rw [hr] at hx
      cases hx
      refine Enters.mono ((ok_ref15_Put.zero rfl rfl rfl) w Z own [v0, v1, v2] (erO a.1, (a.2.1, (erO a.2.2.1, ()))) r hZ hown ⟨⟨c0, g0, er_R k0⟩, ⟨⟨c1, g1, k1⟩, ⟨⟨c2, g2, er_R k2⟩, trivial⟩⟩⟩ hG hr) fun v w' h => ?_
      obtain ⟨own', h1, h2, _⟩ := h
      obtain ⟨y, hy, h3⟩ := lab_res h2
      exact ⟨(y, ()), hy, own', h1, h3, trivial⟩
  | [], hA => exact (hA).elim
  | [_], hA => exact (hA.2).elim
  | [_, _], hA => exact (hA.2.2).elim
  | _ :: _ :: _ :: _ :: _, hA => exact (hA.2.2.2).elim
def s_ref15_ShowE (a : (D0) × ((Option (Nat × N2)) × (Unit))) : Option ((List UInt8) × Unit) := s_ref15_Show (a.1, (erO a.2.1, ()))
def F_ref15_ShowE : FSpec cx.toNm := { ps := [.val ty0, .val (.lptr 2)], nres := 1, rt := .str, rm := .ro, f := s_ref15_ShowE }
theorem ok_ref15_ShowE : FnOk Try.prog F_ref15_ShowE 27 := by
  intro w Z own vs a r hZ hown hA hG hx
  match vs, hA with
  | [v0, v1], hA =>
    obtain ⟨⟨c0, g0, k0⟩, ⟨⟨c1, g1, k1⟩, _⟩⟩ := hA
    exact (ok_ref15_Show.zero rfl rfl rfl) w Z own [v0, v1] (a.1, (erO a.2.1, ())) r hZ hown ⟨⟨c0, g0, k0⟩, ⟨⟨c1, g1, er_R k1⟩, trivial⟩⟩ hG hx
  | [], hA => exact (hA).elim
  | [_], hA => exact (hA.2).elim
  | _ :: _ :: _ :: _, hA => exact (hA.2.2).elim
def q_tree_PutL (a : (Option (Nat × N2)) × ((List (Int)) × ((Option (Nat × N2)) × (Unit)))) : Option (((Option (Nat × N2)) × (Int)) × Unit → Prop) := match s_tree_Put (erO a.1, (a.2.1, (erO a.2.2.1, ()))) with
  | some r => some fun r' => erO r'.1.1 = r.1.1 ∧ r'.1.2 = r.1.2
  | none => none
def F_tree_PutL : FSpec cx.toNm := { ps := [.val (.lptr 2), .val (.slice 3 (.int .i64)), .val (.lptr 2)], nres := 2, rt := (.pair (.lptr 2) (.int .i64)), rm := .ro, f := fun _ => none, l := some q_tree_PutL }
theorem ok_tree_PutL : FnOk Try.prog F_tree_PutL 29 := by
  refine FnOk.ofL (F := F_tree_PutL) (q := q_tree_PutL) ?_
  intro w Z own vs a p hZ hown hA hG hx
  match vs, hA with
  | [v0, v1, v2], hA =>
    obtain ⟨⟨c0, g0, k0⟩, ⟨⟨c1, g1, k1⟩, ⟨⟨c2, g2, k2⟩, _⟩⟩⟩ := hA
    have hx : (match s_tree_Put (erO a.1, (a.2.1, (erO a.2.2.1, ()))) with | some r => some (fun (r' : ((Option (Nat × N2)) × (Int)) × Unit) => erO r'.1.1 = r.1.1 ∧ r'.1.2 = r.1.2) | none => none) = some p := hx
    cases hr : s_tree_Put (erO a.1, (a.2.1, (erO a.2.2.1, ()))) with
    | none => rw [hr] at hx; cases hx
    | some r =>
      rw [hr] at hx
      cases hx
      refine Enters.mono ((ok_tree_Put.zero rfl rfl rfl) w Z own [v0, v1, v2] (erO a.1, (a.2.1, (erO a.2.2.1, ()))) r hZ hown ⟨⟨c0, g0, er_R k0⟩, ⟨⟨c1, g1, k1⟩, ⟨⟨c2, g2, er_R k2⟩, trivial⟩⟩⟩ hG hr) fun v w' h => ?_
      obtain ⟨own', h1, h2, _⟩ := h
      obtain ⟨y, hy, h3⟩ := lab_res2 h2
      exact ⟨((y, r.1.2), ()), ⟨hy, rfl⟩, own', h1, h3, trivial⟩
  | [], hA => exact (hA).elim
  | [_], hA => exact (hA.2).elim
  | [_, _], hA => exact (hA.2.2).elim
  | _ :: _ :: _ :: _ :: _, hA => exact (hA.2.2.2).elim
def s_ref15_SameE (a : (Option (Nat × N2)) × ((Option (Nat × N2)) × (Unit))) : Option ((Bool) × Unit) := s_ref15_Same (erO a.1, (erO a.2.1, ()))
def F_ref15_SameE : FSpec cx.toNm := { ps := [.val (.lptr 2), .val (.lptr 2)], nres := 1, rt := .bool, rm := .ro, f := s_ref15_SameE }
theorem ok_ref15_SameE : FnOk Try.prog F_ref15_SameE 17 := by
  intro w Z own vs a r hZ hown hA hG hx
  match vs, hA with
  | [v0, v1], hA =>
    obtain ⟨⟨c0, g0, k0⟩, ⟨⟨c1, g1, k1⟩, _⟩⟩ := hA
    exact (ok_ref15_Same.zero rfl rfl rfl) w Z own [v0, v1] (erO a.1, (erO a.2.1, ())) r hZ hown ⟨⟨c0, g0, er_R k0⟩, ⟨⟨c1, g1, er_R k1⟩, trivial⟩⟩ hG hx
  | [], hA => exact (hA).elim
  | [_], hA => exact (hA.2).elim
  | _ :: _ :: _ :: _, hA => exact (hA.2.2).elim
end
end Go.Proofs.Ytdnkjfmneppkoaa.Vm.Tr
namespace Go.Proofs.Ytdnkjfmneppkoaa.Vm.Tr
open Go Go.Proofs.Ytdnkjfmneppkoaa.Vm Go.Proofs
set_option linter.unusedVariables false
set_option maxRecDepth 100000
noncomputable section
namespace tree_AtL
noncomputable def E : Env cx := { tys := tysL, fs := fsOf [] }
abbrev R := Option (((Option (Nat × N2)) × (Bool)) × (Unit))
abbrev C := Exit → ST cx → R
noncomputable def b : Code := bodyC Try.f28
noncomputable def h : Hint := { vs := [0, 1, 4, 5, 7, 8, 9, 10], nil := [], cuts := [(2, ([0, 8, 9, 10], []), ([0], [])), (5, ([0, 7, 8, 9, 10, 28], []), ([0, 7, 8, 9, 10], [])), (6, ([0, 7, 8, 9, 10], []), ([0, 8, 9, 10], [])), (7, ([0, 8, 9, 10], []), ([0, 8, 9, 10], [])), (8, ([0], []), ([0], []))], ret := ([4, 5], []), ords := [] }
noncomputable def K0 : C := fin (S := cx) E Try.f28.results.toList (.pair (.lptr 2) .bool) .ro [] []
noncomputable def c0 : Code := subC b [1]
noncomputable def K1 (k : Nat) : C := outD h c0 K0
noncomputable def K2 (k : Nat) : C := seqC E h k c0 K0
noncomputable def c1 : Code := subC b [1, 1]
noncomputable def K3 (k : Nat) : C := outD h c1 (K1 k)
noncomputable def K4 (k : Nat) : C := seqC E h k c1 (K1 k)
noncomputable def c2 : Code := subC b [1, 0, 1]
noncomputable def K5 (k : Nat) : C := outD h c2 (K4 k)
noncomputable def K6 (k : Nat) : C := seqC E h k c2 (K4 k)
noncomputable def K7 (k : Nat) : C := blockK 0 (K5 k)
noncomputable def c3 : Code := subC b [1, 0, 1, 0, 0]
noncomputable def K8 (k n1 : Nat) : C := loopD E h k c3 (K7 k) n1
noncomputable def c4 : Code := subC b [1, 0, 1, 0, 0, 1]
noncomputable def K9 (k n1 : Nat) : C := outD h c4 (K8 k n1)
noncomputable def K10 (k n1 : Nat) : C := seqC E h k c4 (K8 k n1)
noncomputable def c5 : Code := subC b [1, 0, 1, 0, 0, 1, 1]
noncomputable def K11 (k n1 : Nat) : C := outD h c5 (K9 k n1)
noncomputable def K12 (k n1 : Nat) : C := seqC E h k c5 (K9 k n1)
noncomputable def c6 : Code := subC b [1, 0, 1, 0, 0, 1, 1, 1]
noncomputable def K13 (k n1 : Nat) : C := outD h c6 (K11 k n1)
noncomputable def K14 (k n1 : Nat) : C := seqC E h k c6 (K11 k n1)
noncomputable def K15 (k n1 : Nat) : C := blockK 1 (K14 k n1)
noncomputable def c7 : Code := subC b [1, 0, 1, 0, 0, 1, 1, 0, 0, 1]
noncomputable def K16 (k n1 : Nat) : C := outD h c7 (K15 k n1)
noncomputable def K17 (k n1 : Nat) : C := seqC E h k c7 (K15 k n1)
noncomputable def c8 : Code := subC b [1, 0, 1, 0, 0, 1, 1, 0, 0, 1, 1]
noncomputable def K18 (k n1 : Nat) : C := outD h c8 (K16 k n1)
noncomputable def K19 (k n1 : Nat) : C := seqC E h k c8 (K16 k n1)
noncomputable def c9 : Code := subC b [1, 0, 1, 0, 0, 1, 1, 0, 0, 1, 0, 1]
noncomputable def K20 (k n1 : Nat) : C := outD h c9 (K19 k n1)
noncomputable def K21 (k n1 : Nat) : C := seqC E h k c9 (K19 k n1)
noncomputable def c10 : Code := subC b [1, 0, 1, 0, 0, 1, 1, 0, 0, 1, 0, 1, 0, 1]
noncomputable def K22 (k n1 : Nat) : C := outD h c10 (K20 k n1)
noncomputable def K23 (k n1 : Nat) : C := seqC E h k c10 (K20 k n1)
noncomputable def c11 : Code := subC b [1, 1, 1]
noncomputable def K24 (k : Nat) : C := outD h c11 (K3 k)
noncomputable def K25 (k : Nat) : C := seqC E h k c11 (K3 k)
abbrev T5 := (Option (Nat × N2)) → (List (Int)) → Int → Int → R
abbrev T4 := (Option (Nat × N2)) → Int → (List (Int)) → Int → Int → R
abbrev T2 := (Option (Nat × N2)) → Int → (List (Int)) → Int → Int → Bool → R
abbrev T3 := (Option (Nat × N2)) → R
abbrev T1 := (Option (Nat × N2)) → (List (Int)) → Int → Int → R
abbrev T0 := (Option (Nat × N2)) → (List (Int)) → R
abbrev s5 : (Option (Nat × N2)) → (List (Int)) → Int → Int → ST cx := fun (x0 : Option (Nat × N2)) (x8 : List (Int)) (x9 x10 : Int) => ({ vars := [(0, .v (.lptr 2) .ro x0), (8, .v (.slice 3 (.int .i64)) .ro x8), (9, .v (.int .i64) .ro x9), (10, .v (.int .i64) .ro x10)], scr := [], mems := [] } : ST cx)
noncomputable def u5 (k n1 : Nat) : T5 := fun (x0 : Option (Nat × N2)) (x8 : List (Int)) (x9 x10 : Int) => uK (run E h k c6) (s5 x0 x8 x9 x10) (K13 k n1)
noncomputable abbrev l5 (k n1 : Nat) : T5 := fun (x0 : Option (Nat × N2)) (x8 : List (Int)) (x9 x10 : Int) => cutK (run E h k c6) (s5 x0 x8 x9 x10) (K13 k n1)
abbrev s4 : (Option (Nat × N2)) → Int → (List (Int)) → Int → Int → ST cx := fun (x0 : Option (Nat × N2)) (x7 : Int) (x8 : List (Int)) (x9 x10 : Int) => ({ vars := [(0, .v (.lptr 2) .ro x0), (7, .v (.int .i64) .ro x7), (8, .v (.slice 3 (.int .i64)) .ro x8), (9, .v (.int .i64) .ro x9), (10, .v (.int .i64) .ro x10)], scr := [], mems := [] } : ST cx)
noncomputable def u4 (k n1 : Nat) : T4 := fun (x0 : Option (Nat × N2)) (x7 : Int) (x8 : List (Int)) (x9 x10 : Int) => uK (run E h k c8) (s4 x0 x7 x8 x9 x10) (K18 k n1)
noncomputable abbrev l4 (k n1 : Nat) : T4 := fun (x0 : Option (Nat × N2)) (x7 : Int) (x8 : List (Int)) (x9 x10 : Int) => cutK (run E h k c8) (s4 x0 x7 x8 x9 x10) (K18 k n1)
abbrev s2 : (Option (Nat × N2)) → Int → (List (Int)) → Int → Int → Bool → ST cx := fun (x0 : Option (Nat × N2)) (x7 : Int) (x8 : List (Int)) (x9 x10 : Int) (x28 : Bool) => ({ vars := [(0, .v (.lptr 2) .ro x0), (7, .v (.int .i64) .ro x7), (8, .v (.slice 3 (.int .i64)) .ro x8), (9, .v (.int .i64) .ro x9), (10, .v (.int .i64) .ro x10), (28, .v .bool .ro x28)], scr := [], mems := [] } : ST cx)
noncomputable def u2 (k n1 : Nat) : T2 := fun (x0 : Option (Nat × N2)) (x7 : Int) (x8 : List (Int)) (x9 x10 : Int) (x28 : Bool) => uK (run E h k c9) (s2 x0 x7 x8 x9 x10 x28) (K20 k n1)
noncomputable abbrev l2 (k n1 : Nat) : T2 := fun (x0 : Option (Nat × N2)) (x7 : Int) (x8 : List (Int)) (x9 x10 : Int) (x28 : Bool) => cutK (run E h k c9) (s2 x0 x7 x8 x9 x10 x28) (K20 k n1)
abbrev s3 : (Option (Nat × N2)) → ST cx := fun (x0 : Option (Nat × N2)) => ({ vars := [(0, .v (.lptr 2) .ro x0)], scr := [], mems := [] } : ST cx)
noncomputable def u3 (k : Nat) : T3 := fun (x0 : Option (Nat × N2)) => uK (run E h k c1) (s3 x0) (K3 k)
noncomputable abbrev l3 (k : Nat) : T3 := fun (x0 : Option (Nat × N2)) => cutK (run E h k c1) (s3 x0) (K3 k)
abbrev s1 : (Option (Nat × N2)) → (List (Int)) → Int → Int → ST cx := fun (x0 : Option (Nat × N2)) (x8 : List (Int)) (x9 x10 : Int) => ({ vars := [(0, .v (.lptr 2) .ro x0), (8, .v (.slice 3 (.int .i64)) .ro x8), (9, .v (.int .i64) .ro x9), (10, .v (.int .i64) .ro x10)], scr := [], mems := [] } : ST cx)
noncomputable def u1 (k n1 : Nat) : T1 := fun (x0 : Option (Nat × N2)) (x8 : List (Int)) (x9 x10 : Int) => uK (loopL E h k c3 (K7 k) n1) (s1 x0 x8 x9 x10) ()
noncomputable abbrev l1 (k n1 : Nat) : T1 := fun (x0 : Option (Nat × N2)) (x8 : List (Int)) (x9 x10 : Int) => cutK (loopL E h k c3 (K7 k) n1) (s1 x0 x8 x9 x10) ()
noncomputable def u0 (k : Nat) : T0 := fun (x0 : Option (Nat × N2)) (x1 : List (Int)) => runOf (S := cx) E h k Try.f28 [.val (.lptr 2), .val (.slice 3 (.int .i64))] (.pair (.lptr 2) .bool) .ro (x0, x1, ())
def t5 (f1 : T1) : T5 := fun (x0 : Option (Nat × N2)) (x8 : List (Int)) (x9 x10 : Int) => 
  (f1 x0 x8 x9 (w64 (x10 + (1 : Int))))
theorem e5 (k n1 : Nat) : u5 k n1 = t5 (l1 k n1) := by kernel_rfl
theorem g5 (k n1 : Nat) : l5 k n1 = u5 k n1 := funext fun _ => funext fun _ => funext fun _ => funext fun _ => cut_u _ _ _
theorem d5 {x1 y1 : T1} (h1 : x1 = y1) : t5 x1 = t5 y1 := by subst h1; rfl
def p5 (k : Nat) (a1 : T1) : T5 := t5 a1
theorem o5 (k n1 : Nat) (a1 : T1) (h1 : l1 k n1 = a1) : l5 k n1 = p5 k a1 := (Eq.trans (b := u5 k n1) (g5 k n1) (Eq.trans (b := t5 (l1 k n1)) (e5 k n1) (Eq.trans (b := t5 a1) (d5 h1) (by kernel_rfl))))
def t4 (f5 : T5) : T4 := fun (x0 : Option (Nat × N2)) (x7 : Int) (x8 : List (Int)) (x9 x10 : Int) => 
  (bindR x0 fun z3 => (withinR x7 (List.length (out2 z3.2).2.2.2.1) fun q4 => (f5 (List.getD (out2 z3.2).2.2.2.1 q4 none) x8 x9 x10)))
theorem e4 (k n1 : Nat) : u4 k n1 = t4 (l5 k n1) := by kernel_rfl
theorem g4 (k n1 : Nat) : l4 k n1 = u4 k n1 := funext fun _ => funext fun _ => funext fun _ => funext fun _ => funext fun _ => cut_u _ _ _
theorem d4 {x5 y5 : T5} (h5 : x5 = y5) : t4 x5 = t4 y5 := by subst h5; rfl
def p4 (k : Nat) (a1 : T1) : T4 := t4 (p5 k a1)
theorem o4 (k n1 : Nat) (a1 : T1) (h1 : l1 k n1 = a1) : l4 k n1 = p4 k a1 := (Eq.trans (b := u4 k n1) (g4 k n1) (Eq.trans (b := t4 (l5 k n1)) (e4 k n1) (Eq.trans (b := t4 (p5 k a1)) (d4 (o5 k n1 a1 h1)) (by kernel_rfl))))
def t2 (f4 : T4) : T2 := fun (x0 : Option (Nat × N2)) (x7 : Int) (x8 : List (Int)) (x9 x10 : Int) (x28 : Bool) => 
  (iteB x28 (some ((none, false), ())) (f4 x0 x7 x8 x9 x10))
theorem e2 (k n1 : Nat) : u2 k n1 = t2 (l4 k n1) := by kernel_rfl
theorem g2 (k n1 : Nat) : l2 k n1 = u2 k n1 := funext fun _ => funext fun _ => funext fun _ => funext fun _ => funext fun _ => funext fun _ => cut_u _ _ _
theorem d2 {x4 y4 : T4} (h4 : x4 = y4) : t2 x4 = t2 y4 := by subst h4; rfl
def p2 (k : Nat) (a1 : T1) : T2 := t2 (p4 k a1)
theorem o2 (k n1 : Nat) (a1 : T1) (h1 : l1 k n1 = a1) : l2 k n1 = p2 k a1 := (Eq.trans (b := u2 k n1) (g2 k n1) (Eq.trans (b := t2 (l4 k n1)) (e2 k n1) (Eq.trans (b := t2 (p4 k a1)) (d2 (o4 k n1 a1 h1)) (by kernel_rfl))))
def t3 : T3 := fun (x0 : Option (Nat × N2)) => 
  (some ((x0, (!(Option.isNone x0))), ()))
theorem e3 (k : Nat) : u3 k = t3 := by kernel_rfl
theorem g3 (k : Nat) : l3 k = u3 k := funext fun _ => cut_u _ _ _
def p3 (k : Nat) : T3 := t3
theorem o3 (k : Nat) : l3 k = p3 k := (Eq.trans (b := u3 k) (g3 k) (Eq.trans (b := t3) (e3 k) (by kernel_rfl)))
def t1 (f2 : T2) (f3 : T3) : T1 := fun (x0 : Option (Nat × N2)) (x8 : List (Int)) (x9 x10 : Int) => 
  (iteB (decide (x10 < x9)) (withinR x10 (List.length x8) fun q1 => (iteB (Option.isNone x0) (f2 x0 (List.getD x8 q1 (0 : Int)) x8 x9 x10 true) (iteB (decide ((List.getD x8 q1 (0 : Int)) < (0 : Int))) (f2 x0 (List.getD x8 q1 (0 : Int)) x8 x9 x10 true) (bindR x0 fun z2 => (f2 x0 (List.getD x8 q1 (0 : Int)) x8 x9 x10 (decide (((List.length (out2 z2.2).2.2.2.1 : Nat) : Int) ≤ (List.getD x8 q1 (0 : Int))))))))) (f3 x0))
theorem e1 (k n1 : Nat) : u1 k (n1 + 1) = t1 (l2 k n1) (l3 k) := by kernel_rfl
theorem g1 (k n1 : Nat) : l1 k (n1 + 1) = u1 k (n1 + 1) := funext fun _ => funext fun _ => funext fun _ => funext fun _ => cut_u _ _ _
theorem d1 {x2 y2 : T2} {x3 y3 : T3} (h2 : x2 = y2) (h3 : x3 = y3) : t1 x2 x3 = t1 y2 y3 := by subst h2; subst h3; rfl
def p1 (k : Nat) : Nat → T1
  | 0 => fun _ _ _ _ => none
  | n1 + 1 => t1 (p2 k (p1 k n1)) (p3 k)
theorem o1 (k : Nat) : ∀ n1, l1 k n1 = p1 k n1 := by
  intro n1
  induction n1 with
  | zero => kernel_rfl
  | succ n1 ih => exact (Eq.trans (b := u1 k (n1 + 1)) (g1 k n1) (Eq.trans (b := t1 (l2 k n1) (l3 k)) (e1 k n1) (Eq.trans (b := t1 (p2 k (p1 k n1)) (p3 k)) (d1 (o2 k n1 (p1 k n1) ih) (o3 k)) (by kernel_rfl))))
def t0 (f1 : T1) : T0 := fun (x0 : Option (Nat × N2)) (x1 : List (Int)) => 
  (f1 x0 x1 ((List.length x1 : Nat) : Int) (0 : Int))
theorem e0 (k : Nat) : u0 k = t0 (l1 k k) := by kernel_rfl
theorem d0 {x1 y1 : T1} (h1 : x1 = y1) : t0 x1 = t0 y1 := by subst h1; rfl
def p0 (k : Nat) : T0 := t0 (p1 k k)
theorem o0 (k : Nat) : u0 k = p0 k := (Eq.trans (b := t0 (l1 k k)) (e0 k) (Eq.trans (b := t0 (p1 k k)) (d0 (o1 k k)) (by kernel_rfl)))
end tree_AtL
def s_tree_AtL (a : (Option (Nat × N2)) × ((List (Int)) × (Unit))) : Option (((Option (Nat × N2)) × (Bool)) × (Unit)) := tree_AtL.p0 (fuel) a.1 a.2.1
noncomputable def F_tree_AtL : FSpec cx.toNm := { ps := [.val (.lptr 2), .val (.slice 3 (.int .i64))], nres := 2, rt := (.pair (.lptr 2) .bool), rm := .ro, f := s_tree_AtL }
theorem w_tree_AtL (a : (Option (Nat × N2)) × ((List (Int)) × (Unit))) : runOf (S := cx) tree_AtL.E tree_AtL.h (fuel) Try.f28 F_tree_AtL.ps F_tree_AtL.rt F_tree_AtL.rm a = F_tree_AtL.f a := Eq.trans (b := tree_AtL.u0 (fuel) a.1 a.2.1) (by kernel_rfl) (Eq.trans (b := tree_AtL.p0 (fuel) a.1 a.2.1) (congrFun (congrFun (tree_AtL.o0 (fuel)) a.1) a.2.1) (by kernel_rfl))
theorem ok_tree_AtL : FnOk Try.prog F_tree_AtL 28 := fn_of (F := F_tree_AtL) (hn := tree_AtL.h) (E := tree_AtL.E) cxOk (tysTL _ _ _) fs_nil follows Try.func28 (by kernel_rfl) (fun a r h => ⟨fuel, Eq.trans (w_tree_AtL a) h⟩)
namespace ref15_AtL
noncomputable def E : Env cx := { tys := tysL, fs := fsOf [] }
abbrev R := Option ((Option (Nat × N2)) × (Unit))
abbrev C := Exit → ST cx → R
noncomputable def b : Code := bodyC Try.f23
noncomputable def h : Hint := { vs := [0, 1, 4, 5], nil := [], cuts := [(2, ([0, 1, 5], []), ([0], [])), (3, ([0, 1, 5], []), ([0, 1, 5], [])), (5, ([0, 1, 5, 32], []), ([0, 1, 5], [])), (6, ([0, 1, 5], []), ([0, 1, 5], [])), (7, ([0], []), ([0], []))], ret := ([4], []), ords := [] }
noncomputable def K0 : C := fin (S := cx) E Try.f23.results.toList (.lptr 2) .ro [] []
noncomputable def c0 : Code := subC b [1]
noncomputable def K1 (k : Nat) : C := outD h c0 K0
noncomputable def K2 (k : Nat) : C := seqC E h k c0 K0
noncomputable def c1 : Code := subC b [1, 1]
noncomputable def K3 (k : Nat) : C := outD h c1 (K1 k)
noncomputable def K4 (k : Nat) : C := seqC E h k c1 (K1 k)
noncomputable def c2 : Code := subC b [1, 0, 1]
noncomputable def K5 (k : Nat) : C := outD h c2 (K4 k)
noncomputable def K6 (k : Nat) : C := seqC E h k c2 (K4 k)
noncomputable def K7 (k : Nat) : C := blockK 0 (K5 k)
noncomputable def c3 : Code := subC b [1, 0, 1, 0, 0]
noncomputable def K8 (k n1 : Nat) : C := loopD E h k c3 (K7 k) n1
noncomputable def c4 : Code := subC b [1, 0, 1, 0, 0, 1]
noncomputable def K9 (k n1 : Nat) : C := outD h c4 (K8 k n1)
noncomputable def K10 (k n1 : Nat) : C := seqC E h k c4 (K8 k n1)
noncomputable def c5 : Code := subC b [1, 0, 1, 0, 0, 0, 1]
noncomputable def K11 (k n1 : Nat) : C := outD h c5 (K10 k n1)
noncomputable def K12 (k n1 : Nat) : C := seqC E h k c5 (K10 k n1)
noncomputable def c6 : Code := subC b [1, 0, 1, 0, 0, 1, 1]
noncomputable def K13 (k n1 : Nat) : C := outD h c6 (K9 k n1)
noncomputable def K14 (k n1 : Nat) : C := seqC E h k c6 (K9 k n1)
noncomputable def K15 (k n1 : Nat) : C := blockK 1 (K14 k n1)
noncomputable def c7 : Code := subC b [1, 0, 1, 0, 0, 1, 0, 0, 1]
noncomputable def K16 (k n1 : Nat) : C := outD h c7 (K15 k n1)
noncomputable def K17 (k n1 : Nat) : C := seqC E h k c7 (K15 k n1)
noncomputable def c8 : Code := subC b [1, 0, 1, 0, 0, 1, 0, 0, 0, 1]
noncomputable def K18 (k n1 : Nat) : C := outD h c8 (K17 k n1)
noncomputable def K19 (k n1 : Nat) : C := seqC E h k c8 (K17 k n1)
noncomputable def c9 : Code := subC b [1, 0, 1, 0, 0, 1, 0, 0, 0, 1, 0, 1]
noncomputable def K20 (k n1 : Nat) : C := outD h c9 (K18 k n1)
noncomputable def K21 (k n1 : Nat) : C := seqC E h k c9 (K18 k n1)
noncomputable def c10 : Code := subC b [1, 1, 1]
noncomputable def K22 (k : Nat) : C := outD h c10 (K3 k)
noncomputable def K23 (k : Nat) : C := seqC E h k c10 (K3 k)
abbrev T5 := (Option (Nat × N2)) → (List (Int)) → Int → R
abbrev T4 := (Option (Nat × N2)) → (List (Int)) → Int → R
abbrev T2 := (Option (Nat × N2)) → (List (Int)) → Int → Bool → R
abbrev T3 := (Option (Nat × N2)) → R
abbrev T1 := (Option (Nat × N2)) → (List (Int)) → Int → R
abbrev T0 := (Option (Nat × N2)) → (List (Int)) → R
abbrev s5 : (Option (Nat × N2)) → (List (Int)) → Int → ST cx := fun (x0 : Option (Nat × N2)) (x1 : List (Int)) (x5 : Int) => ({ vars := [(0, .v (.lptr 2) .ro x0), (1, .v (.slice 3 (.int .i64)) .ro x1), (5, .v (.int .i64) .ro x5)], scr := [], mems := [] } : ST cx)
noncomputable def u5 (k n1 : Nat) : T5 := fun (x0 : Option (Nat × N2)) (x1 : List (Int)) (x5 : Int) => uK (run E h k c6) (s5 x0 x1 x5) (K13 k n1)
noncomputable abbrev l5 (k n1 : Nat) : T5 := fun (x0 : Option (Nat × N2)) (x1 : List (Int)) (x5 : Int) => cutK (run E h k c6) (s5 x0 x1 x5) (K13 k n1)
abbrev s4 : (Option (Nat × N2)) → (List (Int)) → Int → ST cx := fun (x0 : Option (Nat × N2)) (x1 : List (Int)) (x5 : Int) => ({ vars := [(0, .v (.lptr 2) .ro x0), (1, .v (.slice 3 (.int .i64)) .ro x1), (5, .v (.int .i64) .ro x5)], scr := [], mems := [] } : ST cx)
noncomputable def u4 (k n1 : Nat) : T4 := fun (x0 : Option (Nat × N2)) (x1 : List (Int)) (x5 : Int) => uK (run E h k c7) (s4 x0 x1 x5) (K16 k n1)
noncomputable abbrev l4 (k n1 : Nat) : T4 := fun (x0 : Option (Nat × N2)) (x1 : List (Int)) (x5 : Int) => cutK (run E h k c7) (s4 x0 x1 x5) (K16 k n1)
abbrev s2 : (Option (Nat × N2)) → (List (Int)) → Int → Bool → ST cx := fun (x0 : Option (Nat × N2)) (x1 : List (Int)) (x5 : Int) (x32 : Bool) => ({ vars := [(0, .v (.lptr 2) .ro x0), (1, .v (.slice 3 (.int .i64)) .ro x1), (5, .v (.int .i64) .ro x5), (32, .v .bool .ro x32)], scr := [], mems := [] } : ST cx)
noncomputable def u2 (k n1 : Nat) : T2 := fun (x0 : Option (Nat × N2)) (x1 : List (Int)) (x5 : Int) (x32 : Bool) => uK (run E h k c8) (s2 x0 x1 x5 x32) (K18 k n1)
noncomputable abbrev l2 (k n1 : Nat) : T2 := fun (x0 : Option (Nat × N2)) (x1 : List (Int)) (x5 : Int) (x32 : Bool) => cutK (run E h k c8) (s2 x0 x1 x5 x32) (K18 k n1)
abbrev s3 : (Option (Nat × N2)) → ST cx := fun (x0 : Option (Nat × N2)) => ({ vars := [(0, .v (.lptr 2) .ro x0)], scr := [], mems := [] } : ST cx)
noncomputable def u3 (k : Nat) : T3 := fun (x0 : Option (Nat × N2)) => uK (run E h k c1) (s3 x0) (K3 k)
noncomputable abbrev l3 (k : Nat) : T3 := fun (x0 : Option (Nat × N2)) => cutK (run E h k c1) (s3 x0) (K3 k)
abbrev s1 : (Option (Nat × N2)) → (List (Int)) → Int → ST cx := fun (x0 : Option (Nat × N2)) (x1 : List (Int)) (x5 : Int) => ({ vars := [(0, .v (.lptr 2) .ro x0), (1, .v (.slice 3 (.int .i64)) .ro x1), (5, .v (.int .i64) .ro x5)], scr := [], mems := [] } : ST cx)
noncomputable def u1 (k n1 : Nat) : T1 := fun (x0 : Option (Nat × N2)) (x1 : List (Int)) (x5 : Int) => uK (loopL E h k c3 (K7 k) n1) (s1 x0 x1 x5) ()
noncomputable abbrev l1 (k n1 : Nat) : T1 := fun (x0 : Option (Nat × N2)) (x1 : List (Int)) (x5 : Int) => cutK (loopL E h k c3 (K7 k) n1) (s1 x0 x1 x5) ()
noncomputable def u0 (k : Nat) : T0 := fun (x0 : Option (Nat × N2)) (x1 : List (Int)) => runOf (S := cx) E h k Try.f23 [.val (.lptr 2), .val (.slice 3 (.int .i64))] (.lptr 2) .ro (x0, x1, ())
def t5 (f1 : T1) : T5 := fun (x0 : Option (Nat × N2)) (x1 : List (Int)) (x5 : Int) => 
  (f1 x0 x1 (w64 (x5 + (1 : Int))))
theorem e5 (k n1 : Nat) : u5 k n1 = t5 (l1 k n1) := by kernel_rfl
theorem g5 (k n1 : Nat) : l5 k n1 = u5 k n1 := funext fun _ => funext fun _ => funext fun _ => cut_u _ _ _
theorem d5 {x1 y1 : T1} (h1 : x1 = y1) : t5 x1 = t5 y1 := by subst h1; rfl
def p5 (k : Nat) (a1 : T1) : T5 := t5 a1
theorem o5 (k n1 : Nat) (a1 : T1) (h1 : l1 k n1 = a1) : l5 k n1 = p5 k a1 := (Eq.trans (b := u5 k n1) (g5 k n1) (Eq.trans (b := t5 (l1 k n1)) (e5 k n1) (Eq.trans (b := t5 a1) (d5 h1) (by kernel_rfl))))
def t4 (f5 : T5) : T4 := fun (x0 : Option (Nat × N2)) (x1 : List (Int)) (x5 : Int) => 
  (bindR x0 fun z4 => (withinR x5 (List.length x1) fun q5 => (withinR (List.getD x1 q5 (0 : Int)) (List.length (out2 z4.2).2.2.2.1) fun q6 => (f5 (List.getD (out2 z4.2).2.2.2.1 q6 none) x1 x5))))
theorem e4 (k n1 : Nat) : u4 k n1 = t4 (l5 k n1) := by kernel_rfl
theorem g4 (k n1 : Nat) : l4 k n1 = u4 k n1 := funext fun _ => funext fun _ => funext fun _ => cut_u _ _ _
theorem d4 {x5 y5 : T5} (h5 : x5 = y5) : t4 x5 = t4 y5 := by subst h5; rfl
def p4 (k : Nat) (a1 : T1) : T4 := t4 (p5 k a1)
theorem o4 (k n1 : Nat) (a1 : T1) (h1 : l1 k n1 = a1) : l4 k n1 = p4 k a1 := (Eq.trans (b := u4 k n1) (g4 k n1) (Eq.trans (b := t4 (l5 k n1)) (e4 k n1) (Eq.trans (b := t4 (p5 k a1)) (d4 (o5 k n1 a1 h1)) (by kernel_rfl))))
def t2 (f4 : T4) : T2 := fun (x0 : Option (Nat × N2)) (x1 : List (Int)) (x5 : Int) (x32 : Bool) => 
  (iteB x32 (some (none, ())) (f4 x0 x1 x5))
theorem e2 (k n1 : Nat) : u2 k n1 = t2 (l4 k n1) := by kernel_rfl
theorem g2 (k n1 : Nat) : l2 k n1 = u2 k n1 := funext fun _ => funext fun _ => funext fun _ => funext fun _ => cut_u _ _ _
theorem d2 {x4 y4 : T4} (h4 : x4 = y4) : t2 x4 = t2 y4 := by subst h4; rfl
def p2 (k : Nat) (a1 : T1) : T2 := t2 (p4 k a1)
theorem o2 (k n1 : Nat) (a1 : T1) (h1 : l1 k n1 = a1) : l2 k n1 = p2 k a1 := (Eq.trans (b := u2 k n1) (g2 k n1) (Eq.trans (b := t2 (l4 k n1)) (e2 k n1) (Eq.trans (b := t2 (p4 k a1)) (d2 (o4 k n1 a1 h1)) (by kernel_rfl))))
def t3 : T3 := fun (x0 : Option (Nat × N2)) => 
  (some (x0, ()))
theorem e3 (k : Nat) : u3 k = t3 := by kernel_rfl
theorem g3 (k : Nat) : l3 k = u3 k := funext fun _ => cut_u _ _ _
def p3 (k : Nat) : T3 := t3
theorem o3 (k : Nat) : l3 k = p3 k := (Eq.trans (b := u3 k) (g3 k) (Eq.trans (b := t3) (e3 k) (by kernel_rfl)))
def t1 (f2 : T2) (f3 : T3) : T1 := fun (x0 : Option (Nat × N2)) (x1 : List (Int)) (x5 : Int) => 
  (iteB (decide (x5 < ((List.length x1 : Nat) : Int))) (iteB (Option.isNone x0) (f2 x0 x1 x5 true) (withinR x5 (List.length x1) fun q1 => (iteB (decide ((List.getD x1 q1 (0 : Int)) < (0 : Int))) (f2 x0 x1 x5 true) (withinR x5 (List.length x1) fun q2 => (bindR x0 fun z3 => (f2 x0 x1 x5 (decide (((List.length (out2 z3.2).2.2.2.1 : Nat) : Int) ≤ (List.getD x1 q2 (0 : Int)))))))))) (f3 x0))
theorem e1 (k n1 : Nat) : u1 k (n1 + 1) = t1 (l2 k n1) (l3 k) := by kernel_rfl
theorem g1 (k n1 : Nat) : l1 k (n1 + 1) = u1 k (n1 + 1) := funext fun _ => funext fun _ => funext fun _ => cut_u _ _ _
theorem d1 {x2 y2 : T2} {x3 y3 : T3} (h2 : x2 = y2) (h3 : x3 = y3) : t1 x2 x3 = t1 y2 y3 := by subst h2; subst h3; rfl
def p1 (k : Nat) : Nat → T1
  | 0 => fun _ _ _ => none
  | n1 + 1 => t1 (p2 k (p1 k n1)) (p3 k)
theorem o1 (k : Nat) : ∀ n1, l1 k n1 = p1 k n1 := by
  intro n1
  induction n1 with
  | zero => kernel_rfl
  | succ n1 ih => exact (Eq.trans (b := u1 k (n1 + 1)) (g1 k n1) (Eq.trans (b := t1 (l2 k n1) (l3 k)) (e1 k n1) (Eq.trans (b := t1 (p2 k (p1 k n1)) (p3 k)) (d1 (o2 k n1 (p1 k n1) ih) (o3 k)) (by kernel_rfl))))
def t0 (f1 : T1) : T0 := fun (x0 : Option (Nat × N2)) (x1 : List (Int)) => 
  (f1 x0 x1 (0 : Int))
theorem e0 (k : Nat) : u0 k = t0 (l1 k k) := by kernel_rfl
theorem d0 {x1 y1 : T1} (h1 : x1 = y1) : t0 x1 = t0 y1 := by subst h1; rfl
def p0 (k : Nat) : T0 := t0 (p1 k k)
theorem o0 (k : Nat) : u0 k = p0 k := (Eq.trans (b := t0 (l1 k k)) (e0 k) (Eq.trans (b := t0 (p1 k k)) (d0 (o1 k k)) (by kernel_rfl)))
end ref15_AtL
def s_ref15_AtL (a : (Option (Nat × N2)) × ((List (Int)) × (Unit))) : Option ((Option (Nat × N2)) × (Unit)) := ref15_AtL.p0 (fuel) a.1 a.2.1
noncomputable def F_ref15_AtL : FSpec cx.toNm := { ps := [.val (.lptr 2), .val (.slice 3 (.int .i64))], nres := 1, rt := (.lptr 2), rm := .ro, f := s_ref15_AtL }
theorem w_ref15_AtL (a : (Option (Nat × N2)) × ((List (Int)) × (Unit))) : runOf (S := cx) ref15_AtL.E ref15_AtL.h (fuel) Try.f23 F_ref15_AtL.ps F_ref15_AtL.rt F_ref15_AtL.rm a = F_ref15_AtL.f a := Eq.trans (b := ref15_AtL.u0 (fuel) a.1 a.2.1) (by kernel_rfl) (Eq.trans (b := ref15_AtL.p0 (fuel) a.1 a.2.1) (congrFun (congrFun (ref15_AtL.o0 (fuel)) a.1) a.2.1) (by kernel_rfl))
theorem ok_ref15_AtL : FnOk Try.prog F_ref15_AtL 23 := fn_of (F := F_ref15_AtL) (hn := ref15_AtL.h) (E := ref15_AtL.E) cxOk (tysTL _ _ _) fs_nil follows Try.func23 (by kernel_rfl) (fun a r h => ⟨fuel, Eq.trans (w_ref15_AtL a) h⟩)
namespace law15_TreePuts
noncomputable def E : Env cx := { tys := tysL, fs := fsOf [(7, F_law15_alive), (10, F_law15_GreatE), (17, F_ref15_SameE), (18, F_ref15_OfL), (23, F_ref15_AtL), (25, F_law15_bareE), (26, F_ref15_PutL), (27, F_ref15_ShowE), (28, F_tree_AtL), (29, F_tree_PutL)] }
abbrev R := Option ((Bool) × (Unit))
abbrev C := Exit → ST cx → R
noncomputable def b : Code := bodyC Try.f6
noncomputable def h : Hint := { vs := [0, 1, 2, 3, 4, 7, 8, 9, 10, 11, 12, 13, 14, 15, 16, 17, 18, 19, 20, 21, 22, 24], nil := [], cuts := [(5, ([1, 2, 9, 10, 55], []), ([1, 2, 9, 10], [])), (6, ([1, 2, 9, 10], []), ([1, 2, 9, 10], [])), (11, ([1, 2, 9, 10, 11, 12, 15, 79], []), ([1, 2, 9, 10, 11, 12, 15], [])), (12, ([1, 2, 9, 10, 11, 12, 15], []), ([1, 2, 9, 10, 11, 12, 15], [])), (16, ([1, 2, 9, 10, 11, 12, 16, 17, 107], []), ([1, 2, 9, 10, 11, 12, 16, 17], [])), (17, ([1, 2, 9, 10, 11, 12, 16, 17], []), ([1, 2, 9, 10, 11, 12, 16, 17], [])), (20, ([1, 2, 9, 16, 159], []), ([1, 2, 9, 16], [])), (21, ([1, 2, 9, 16], []), ([1, 2, 9, 16], [])), (22, ([1, 2, 9, 16, 21], []), ([], [])), (24, ([1, 2, 9, 16, 21], []), ([1, 2, 9, 16, 21], [])), (28, ([], []), ([], [])), (1000000, ([1, 2, 9, 16, 21, 169], []), ([1, 2, 9, 16, 21], []))], ret := ([8], [4, 7]), ords := [(3, [0, 2, 1, 3, 4, 5]), (19, [0, 1, 2, 3, 4, 5, 6, 7, 8, 9, 10, 11, 12, 13, 14, 15, 16, 17, 18, 19, 20, 21, 22, 23, 24, 25, 26, 27, 28, 29, 30, 31, 33, 32, 34, 35])] }
noncomputable def K0 : C := fin (S := cx) E Try.f6.results.toList .bool .ro [] []
noncomputable def c0 : Code := subC b [1]
noncomputable def K1 (k : Nat) : C := outD h c0 K0
noncomputable def K2 (k : Nat) : C := seqC E h k c0 K0
noncomputable def c1 : Code := subC b [1, 1]
noncomputable def K3 (k : Nat) : C := outD h c1 (K1 k)
noncomputable def K4 (k : Nat) : C := seqC E h k c1 (K1 k)
noncomputable def c2 : Code := subC b [1, 0, 1]
noncomputable def K5 (k : Nat) : C := outD h c2 (K4 k)
noncomputable def K6 (k : Nat) : C := seqC E h k c2 (K4 k)
noncomputable def c3 : Code := subC b [1, 0, 1, 0, 1]
noncomputable def K7 (k : Nat) : C := outD h c3 (K5 k)
noncomputable def K8 (k : Nat) : C := seqC E h k c3 (K5 k)
noncomputable def c4 : Code := subC b [1, 1, 1]
noncomputable def K9 (k : Nat) : C := outD h c4 (K3 k)
noncomputable def K10 (k : Nat) : C := seqC E h k c4 (K3 k)
noncomputable def c5 : Code := subC b [1, 1, 1, 1]
noncomputable def K11 (k : Nat) : C := outD h c5 (K9 k)
noncomputable def K12 (k : Nat) : C := seqC E h k c5 (K9 k)
noncomputable def c6 : Code := subC b [1, 1, 1, 0, 1]
noncomputable def K13 (k : Nat) : C := outD h c6 (K12 k)
noncomputable def K14 (k : Nat) : C := seqC E h k c6 (K12 k)
noncomputable def c7 : Code := subC b [1, 1, 1, 0, 1, 0, 1]
noncomputable def K15 (k : Nat) : C := outD h c7 (K13 k)
noncomputable def K16 (k : Nat) : C := seqC E h k c7 (K13 k)
noncomputable def c8 : Code := subC b [1, 1, 1, 1, 1]
noncomputable def K17 (k : Nat) : C := outD h c8 (K11 k)
noncomputable def K18 (k : Nat) : C := seqC E h k c8 (K11 k)
noncomputable def c9 : Code := subC b [1, 1, 1, 1, 1, 1]
noncomputable def K19 (k : Nat) : C := outD h c9 (K17 k)
noncomputable def K20 (k : Nat) : C := seqC E h k c9 (K17 k)
noncomputable def c10 : Code := subC b [1, 1, 1, 1, 1, 1, 1]
noncomputable def K21 (k : Nat) : C := outD h c10 (K19 k)
noncomputable def K22 (k : Nat) : C := seqC E h k c10 (K19 k)
noncomputable def c11 : Code := subC b [1, 1, 1, 1, 1, 1, 1, 1]
noncomputable def K23 (k : Nat) : C := outD h c11 (K21 k)
noncomputable def K24 (k : Nat) : C := seqC E h k c11 (K21 k)
noncomputable def c12 : Code := subC b [1, 1, 1, 1, 1, 1, 1, 1, 1]
noncomputable def K25 (k : Nat) : C := outD h c12 (K23 k)
noncomputable def K26 (k : Nat) : C := seqC E h k c12 (K23 k)
noncomputable def c13 : Code := subC b [1, 1, 1, 1, 1, 1, 1, 1, 0, 1]
noncomputable def K27 (k : Nat) : C := outD h c13 (K26 k)
noncomputable def K28 (k : Nat) : C := seqC E h k c13 (K26 k)
noncomputable def c14 : Code := subC b [1, 1, 1, 1, 1, 1, 1, 1, 0, 1, 0, 1]
noncomputable def K29 (k : Nat) : C := outD h c14 (K27 k)
noncomputable def K30 (k : Nat) : C := seqC E h k c14 (K27 k)
noncomputable def c15 : Code := subC b [1, 1, 1, 1, 1, 1, 1, 1, 1, 1]
noncomputable def K31 (k : Nat) : C := outD h c15 (K25 k)
noncomputable def K32 (k : Nat) : C := seqC E h k c15 (K25 k)
noncomputable def c16 : Code := subC b [1, 1, 1, 1, 1, 1, 1, 1, 1, 1, 1]
noncomputable def K33 (k : Nat) : C := outD h c16 (K31 k)
noncomputable def K34 (k : Nat) : C := seqC E h k c16 (K31 k)
noncomputable def c17 : Code := subC b [1, 1, 1, 1, 1, 1, 1, 1, 1, 1, 0, 1]
noncomputable def K35 (k : Nat) : C := outD h c17 (K34 k)
noncomputable def K36 (k : Nat) : C := seqC E h k c17 (K34 k)
noncomputable def c18 : Code := subC b [1, 1, 1, 1, 1, 1, 1, 1, 1, 1, 0, 1, 0, 1]
noncomputable def K37 (k : Nat) : C := outD h c18 (K35 k)
noncomputable def K38 (k : Nat) : C := seqC E h k c18 (K35 k)
noncomputable def c19 : Code := subC b [1, 1, 1, 1, 1, 1, 1, 1, 1, 1, 1, 1]
noncomputable def K39 (k : Nat) : C := outD h c19 (K33 k)
noncomputable def K40 (k : Nat) : C := seqC E h k c19 (K33 k)
noncomputable def c20 : Code := subC b [1, 1, 1, 1, 1, 1, 1, 1, 1, 1, 1, 0, 1]
noncomputable def K41 (k : Nat) : C := outD h c20 (K40 k)
noncomputable def K42 (k : Nat) : C := seqC E h k c20 (K40 k)
noncomputable def c21 : Code := subC b [1, 1, 1, 1, 1, 1, 1, 1, 1, 1, 1, 0, 1, 0, 1]
noncomputable def K43 (k : Nat) : C := outD h c21 (K41 k)
noncomputable def K44 (k : Nat) : C := seqC E h k c21 (K41 k)
noncomputable def c22 : Code := subC b [1, 1, 1, 1, 1, 1, 1, 1, 1, 1, 1, 1, 1]
noncomputable def K45 (k : Nat) : C := outD h c22 (K39 k)
noncomputable def K46 (k : Nat) : C := seqC E h k c22 (K39 k)
noncomputable def c23 : Code := subC b [1, 1, 1, 1, 1, 1, 1, 1, 1, 1, 1, 1, 1, 1]
noncomputable def K47 (k : Nat) : C := outD h c23 (K45 k)
noncomputable def K48 (k : Nat) : C := seqC E h k c23 (K45 k)
noncomputable def c24 : Code := subC b [1, 1, 1, 1, 1, 1, 1, 1, 1, 1, 1, 1, 1, 1, 1]
noncomputable def K49 (k : Nat) : C := outD h c24 (K47 k)
noncomputable def K50 (k : Nat) : C := seqC E h k c24 (K47 k)
noncomputable def c25 : Code := subC b [1, 1, 1, 1, 1, 1, 1, 1, 1, 1, 1, 1, 1, 1, 0, 1]
noncomputable def K51 (k : Nat) : C := outD h c25 (K50 k)
noncomputable def K52 (k : Nat) : C := seqC E h k c25 (K50 k)
noncomputable def c26 : Code := subC b [1, 1, 1, 1, 1, 1, 1, 1, 1, 1, 1, 1, 1, 1, 0, 1, 0, 1]
noncomputable def K53 (k : Nat) : C := outD h c26 (K51 k)
noncomputable def K54 (k : Nat) : C := seqC E h k c26 (K51 k)
noncomputable def c27 : Code := subC b [1, 1, 1, 1, 1, 1, 1, 1, 1, 1, 1, 1, 1, 1, 1, 1]
noncomputable def K55 (k : Nat) : C := outD h c27 (K49 k)
noncomputable def K56 (k : Nat) : C := seqC E h k c27 (K49 k)
noncomputable def c28 : Code := subC b [1, 1, 1, 1, 1, 1, 1, 1, 1, 1, 1, 1, 1, 1, 1, 0, 1]
noncomputable def K57 (k : Nat) : C := outD h c28 (K56 k)
noncomputable def K58 (k : Nat) : C := seqC E h k c28 (K56 k)
noncomputable def K59 (k : Nat) : C := blockK 0 (K57 k)
noncomputable def c29 : Code := subC b [1, 1, 1, 1, 1, 1, 1, 1, 1, 1, 1, 1, 1, 1, 1, 0, 1, 0, 0]
noncomputable def K60 (k n9 : Nat) : C := loopD E h k c29 (K59 k) n9
noncomputable def c30 : Code := subC b [1, 1, 1, 1, 1, 1, 1, 1, 1, 1, 1, 1, 1, 1, 1, 0, 1, 0, 0, 1]
noncomputable def K61 (k n9 : Nat) : C := outD h c30 (K60 k n9)
noncomputable def K62 (k n9 : Nat) : C := seqC E h k c30 (K60 k n9)
noncomputable def c31 : Code := subC b [1, 1, 1, 1, 1, 1, 1, 1, 1, 1, 1, 1, 1, 1, 1, 0, 1, 0, 0, 0, 1]
noncomputable def K63 (k n9 : Nat) : C := outD h c31 (K62 k n9)
noncomputable def K64 (k n9 : Nat) : C := seqC E h k c31 (K62 k n9)
noncomputable def c32 : Code := subC b [1, 1, 1, 1, 1, 1, 1, 1, 1, 1, 1, 1, 1, 1, 1, 0, 1, 0, 0, 1, 1]
noncomputable def K65 (k n9 : Nat) : C := outD h c32 (K61 k n9)
noncomputable def K66 (k n9 : Nat) : C := seqC E h k c32 (K61 k n9)
noncomputable def K67 (k n9 : Nat) : C := blockK 1 (K66 k n9)
noncomputable def c33 : Code := subC b [1, 1, 1, 1, 1, 1, 1, 1, 1, 1, 1, 1, 1, 1, 1, 0, 1, 0, 0, 1, 0, 0, 1]
noncomputable def K68 (k n9 : Nat) : C := outD h c33 (K67 k n9)
noncomputable def K69 (k n9 : Nat) : C := seqC E h k c33 (K67 k n9)
noncomputable def c34 : Code := subC b [1, 1, 1, 1, 1, 1, 1, 1, 1, 1, 1, 1, 1, 1, 1, 0, 1, 0, 0, 1, 0, 0, 1, 0, 1]
noncomputable def K70 (k n9 : Nat) : C := outD h c34 (K68 k n9)
noncomputable def K71 (k n9 : Nat) : C := seqC E h k c34 (K68 k n9)
noncomputable def c35 : Code := subC b [1, 1, 1, 1, 1, 1, 1, 1, 1, 1, 1, 1, 1, 1, 1, 0, 1, 0, 0, 1, 0, 0, 1, 0, 1, 1]
noncomputable def K72 (k n9 : Nat) : C := outD h c35 (K70 k n9)
noncomputable def K73 (k n9 : Nat) : C := seqC E h k c35 (K70 k n9)
noncomputable def c36 : Code := subC b [1, 1, 1, 1, 1, 1, 1, 1, 1, 1, 1, 1, 1, 1, 1, 0, 1, 0, 0, 1, 0, 0, 1, 0, 1, 1, 1]
noncomputable def K74 (k n9 : Nat) : C := outD h c36 (K72 k n9)
noncomputable def K75 (k n9 : Nat) : C := seqC E h k c36 (K72 k n9)
noncomputable def c37 : Code := subC b [1, 1, 1, 1, 1, 1, 1, 1, 1, 1, 1, 1, 1, 1, 1, 1, 1]
noncomputable def K76 (k : Nat) : C := outD h c37 (K55 k)
noncomputable def K77 (k : Nat) : C := seqC E h k c37 (K55 k)
abbrev T11 := (List (Int)) → (List (Int)) → (Option (Nat × N2)) → (Option (Nat × N2)) → Int → R
abbrev T12 := R
abbrev T10 := (List (Int)) → (List (Int)) → (Option (Nat × N2)) → (Option (Nat × N2)) → Int → Bool → R
abbrev T9 := (List (Int)) → (List (Int)) → (Option (Nat × N2)) → (Option (Nat × N2)) → Int → R
abbrev T8 := (List (Int)) → (List (Int)) → (Option (Nat × N2)) → (Option (Nat × N2)) → R
abbrev T7 := (List (Int)) → (List (Int)) → (Option (Nat × N2)) → (Option (Nat × N2)) → Bool → R
abbrev T6 := (List (Int)) → (List (Int)) → (Option (Nat × N2)) → (Option (Nat × N2)) → (Option (Nat × N2)) → (List UInt8) → (Option (Nat × N2)) → Int → R
abbrev T5 := (List (Int)) → (List (Int)) → (Option (Nat × N2)) → (Option (Nat × N2)) → (Option (Nat × N2)) → (List UInt8) → (Option (Nat × N2)) → Int → Bool → R
abbrev T4 := (List (Int)) → (List (Int)) → (Option (Nat × N2)) → (Option (Nat × N2)) → (Option (Nat × N2)) → (List UInt8) → (Option (Nat × N2)) → R
abbrev T3 := (List (Int)) → (List (Int)) → (Option (Nat × N2)) → (Option (Nat × N2)) → (Option (Nat × N2)) → (List UInt8) → (Option (Nat × N2)) → Bool → R
abbrev T2 := (List (Int)) → (List (Int)) → (Option (Nat × N2)) → (Option (Nat × N2)) → R
abbrev T1 := (List (Int)) → (List (Int)) → (Option (Nat × N2)) → (Option (Nat × N2)) → Bool → R
abbrev T0 := D2 → (List (Int)) → (List (Int)) → D2 → R
abbrev s11 : (List (Int)) → (List (Int)) → (Option (Nat × N2)) → (Option (Nat × N2)) → Int → ST cx := fun (x1 x2 : List (Int)) (x9 x16 : Option (Nat × N2)) (x21 : Int) => ({ vars := [(1, .v (.slice 3 (.int .i64)) .ro x1), (2, .v (.slice 3 (.int .i64)) .ro x2), (9, .v (.lptr 2) .ro x9), (16, .v (.lptr 2) .ro x16), (21, .v (.int .i64) .ro x21)], scr := [], mems := [] } : ST cx)
noncomputable def u11 (k n9 : Nat) : T11 := fun (x1 x2 : List (Int)) (x9 x16 : Option (Nat × N2)) (x21 : Int) => uK (run E h k c30) (s11 x1 x2 x9 x16 x21) (K61 k n9)
noncomputable abbrev l11 (k n9 : Nat) : T11 := fun (x1 x2 : List (Int)) (x9 x16 : Option (Nat × N2)) (x21 : Int) => cutK (run E h k c30) (s11 x1 x2 x9 x16 x21) (K61 k n9)
abbrev s12 : ST cx := ({ vars := [], scr := [], mems := [] } : ST cx)
noncomputable def u12 (k : Nat) : T12 := uK (run E h k c27) s12 (K55 k)
noncomputable abbrev l12 (k : Nat) : T12 := cutK (run E h k c27) s12 (K55 k)
abbrev s10 : (List (Int)) → (List (Int)) → (Option (Nat × N2)) → (Option (Nat × N2)) → Int → Bool → ST cx := fun (x1 x2 : List (Int)) (x9 x16 : Option (Nat × N2)) (x21 : Int) (x169 : Bool) => ({ vars := [(1, .v (.slice 3 (.int .i64)) .ro x1), (2, .v (.slice 3 (.int .i64)) .ro x2), (9, .v (.lptr 2) .ro x9), (16, .v (.lptr 2) .ro x16), (21, .v (.int .i64) .ro x21), (169, .v .bool .ro x169)], scr := [], mems := [] } : ST cx)
noncomputable def u10 (k n9 : Nat) : T10 := fun (x1 x2 : List (Int)) (x9 x16 : Option (Nat × N2)) (x21 : Int) (x169 : Bool) => uK (run E h k c31) (s10 x1 x2 x9 x16 x21 x169) (K63 k n9)
noncomputable abbrev l10 (k n9 : Nat) : T10 := fun (x1 x2 : List (Int)) (x9 x16 : Option (Nat × N2)) (x21 : Int) (x169 : Bool) => cutK (run E h k c31) (s10 x1 x2 x9 x16 x21 x169) (K63 k n9)
abbrev s9 : (List (Int)) → (List (Int)) → (Option (Nat × N2)) → (Option (Nat × N2)) → Int → ST cx := fun (x1 x2 : List (Int)) (x9 x16 : Option (Nat × N2)) (x21 : Int) => ({ vars := [(1, .v (.slice 3 (.int .i64)) .ro x1), (2, .v (.slice 3 (.int .i64)) .ro x2), (9, .v (.lptr 2) .ro x9), (16, .v (.lptr 2) .ro x16), (21, .v (.int .i64) .ro x21)], scr := [], mems := [] } : ST cx)
noncomputable def u9 (k n9 : Nat) : T9 := fun (x1 x2 : List (Int)) (x9 x16 : Option (Nat × N2)) (x21 : Int) => uK (loopL E h k c29 (K59 k) n9) (s9 x1 x2 x9 x16 x21) ()
noncomputable abbrev l9 (k n9 : Nat) : T9 := fun (x1 x2 : List (Int)) (x9 x16 : Option (Nat × N2)) (x21 : Int) => cutK (loopL E h k c29 (K59 k) n9) (s9 x1 x2 x9 x16 x21) ()
abbrev s8 : (List (Int)) → (List (Int)) → (Option (Nat × N2)) → (Option (Nat × N2)) → ST cx := fun (x1 x2 : List (Int)) (x9 x16 : Option (Nat × N2)) => ({ vars := [(1, .v (.slice 3 (.int .i64)) .ro x1), (2, .v (.slice 3 (.int .i64)) .ro x2), (9, .v (.lptr 2) .ro x9), (16, .v (.lptr 2) .ro x16)], scr := [], mems := [] } : ST cx)
noncomputable def u8 (k : Nat) : T8 := fun (x1 x2 : List (Int)) (x9 x16 : Option (Nat × N2)) => uK (run E h k c24) (s8 x1 x2 x9 x16) (K49 k)
noncomputable abbrev l8 (k : Nat) : T8 := fun (x1 x2 : List (Int)) (x9 x16 : Option (Nat × N2)) => cutK (run E h k c24) (s8 x1 x2 x9 x16) (K49 k)
abbrev s7 : (List (Int)) → (List (Int)) → (Option (Nat × N2)) → (Option (Nat × N2)) → Bool → ST cx := fun (x1 x2 : List (Int)) (x9 x16 : Option (Nat × N2)) (x159 : Bool) => ({ vars := [(1, .v (.slice 3 (.int .i64)) .ro x1), (2, .v (.slice 3 (.int .i64)) .ro x2), (9, .v (.lptr 2) .ro x9), (16, .v (.lptr 2) .ro x16), (159, .v .bool .ro x159)], scr := [], mems := [] } : ST cx)
noncomputable def u7 (k : Nat) : T7 := fun (x1 x2 : List (Int)) (x9 x16 : Option (Nat × N2)) (x159 : Bool) => uK (run E h k c25) (s7 x1 x2 x9 x16 x159) (K51 k)
noncomputable abbrev l7 (k : Nat) : T7 := fun (x1 x2 : List (Int)) (x9 x16 : Option (Nat × N2)) (x159 : Bool) => cutK (run E h k c25) (s7 x1 x2 x9 x16 x159) (K51 k)
abbrev s6 : (List (Int)) → (List (Int)) → (Option (Nat × N2)) → (Option (Nat × N2)) → (Option (Nat × N2)) → (List UInt8) → (Option (Nat × N2)) → Int → ST cx := fun (x1 x2 : List (Int)) (x9 x10 x11 : Option (Nat × N2)) (x12 : List UInt8) (x16 : Option (Nat × N2)) (x17 : Int) => ({ vars := [(1, .v (.slice 3 (.int .i64)) .ro x1), (2, .v (.slice 3 (.int .i64)) .ro x2), (9, .v (.lptr 2) .ro x9), (10, .v (.lptr 2) .ro x10), (11, .v (.lptr 2) .ro x11), (12, .v .str .ro x12), (16, .v (.lptr 2) .ro x16), (17, .v (.int .i64) .ro x17)], scr := [], mems := [] } : ST cx)
noncomputable def u6 (k : Nat) : T6 := fun (x1 x2 : List (Int)) (x9 x10 x11 : Option (Nat × N2)) (x12 : List UInt8) (x16 : Option (Nat × N2)) (x17 : Int) => uK (run E h k c19) (s6 x1 x2 x9 x10 x11 x12 x16 x17) (K39 k)
noncomputable abbrev l6 (k : Nat) : T6 := fun (x1 x2 : List (Int)) (x9 x10 x11 : Option (Nat × N2)) (x12 : List UInt8) (x16 : Option (Nat × N2)) (x17 : Int) => cutK (run E h k c19) (s6 x1 x2 x9 x10 x11 x12 x16 x17) (K39 k)
abbrev s5 : (List (Int)) → (List (Int)) → (Option (Nat × N2)) → (Option (Nat × N2)) → (Option (Nat × N2)) → (List UInt8) → (Option (Nat × N2)) → Int → Bool → ST cx := fun (x1 x2 : List (Int)) (x9 x10 x11 : Option (Nat × N2)) (x12 : List UInt8) (x16 : Option (Nat × N2)) (x17 : Int) (x107 : Bool) => ({ vars := [(1, .v (.slice 3 (.int .i64)) .ro x1), (2, .v (.slice 3 (.int .i64)) .ro x2), (9, .v (.lptr 2) .ro x9), (10, .v (.lptr 2) .ro x10), (11, .v (.lptr 2) .ro x11), (12, .v .str .ro x12), (16, .v (.lptr 2) .ro x16), (17, .v (.int .i64) .ro x17), (107, .v .bool .ro x107)], scr := [], mems := [] } : ST cx)
noncomputable def u5 (k : Nat) : T5 := fun (x1 x2 : List (Int)) (x9 x10 x11 : Option (Nat × N2)) (x12 : List UInt8) (x16 : Option (Nat × N2)) (x17 : Int) (x107 : Bool) => uK (run E h k c20) (s5 x1 x2 x9 x10 x11 x12 x16 x17 x107) (K41 k)
noncomputable abbrev l5 (k : Nat) : T5 := fun (x1 x2 : List (Int)) (x9 x10 x11 : Option (Nat × N2)) (x12 : List UInt8) (x16 : Option (Nat × N2)) (x17 : Int) (x107 : Bool) => cutK (run E h k c20) (s5 x1 x2 x9 x10 x11 x12 x16 x17 x107) (K41 k)
abbrev s4 : (List (Int)) → (List (Int)) → (Option (Nat × N2)) → (Option (Nat × N2)) → (Option (Nat × N2)) → (List UInt8) → (Option (Nat × N2)) → ST cx := fun (x1 x2 : List (Int)) (x9 x10 x11 : Option (Nat × N2)) (x12 : List UInt8) (x15 : Option (Nat × N2)) => ({ vars := [(1, .v (.slice 3 (.int .i64)) .ro x1), (2, .v (.slice 3 (.int .i64)) .ro x2), (9, .v (.lptr 2) .ro x9), (10, .v (.lptr 2) .ro x10), (11, .v (.lptr 2) .ro x11), (12, .v .str .ro x12), (15, .v (.lptr 2) .ro x15)], scr := [], mems := [] } : ST cx)
noncomputable def u4 (k : Nat) : T4 := fun (x1 x2 : List (Int)) (x9 x10 x11 : Option (Nat × N2)) (x12 : List UInt8) (x15 : Option (Nat × N2)) => uK (run E h k c12) (s4 x1 x2 x9 x10 x11 x12 x15) (K25 k)
noncomputable abbrev l4 (k : Nat) : T4 := fun (x1 x2 : List (Int)) (x9 x10 x11 : Option (Nat × N2)) (x12 : List UInt8) (x15 : Option (Nat × N2)) => cutK (run E h k c12) (s4 x1 x2 x9 x10 x11 x12 x15) (K25 k)
abbrev s3 : (List (Int)) → (List (Int)) → (Option (Nat × N2)) → (Option (Nat × N2)) → (Option (Nat × N2)) → (List UInt8) → (Option (Nat × N2)) → Bool → ST cx := fun (x1 x2 : List (Int)) (x9 x10 x11 : Option (Nat × N2)) (x12 : List UInt8) (x15 : Option (Nat × N2)) (x79 : Bool) => ({ vars := [(1, .v (.slice 3 (.int .i64)) .ro x1), (2, .v (.slice 3 (.int .i64)) .ro x2), (9, .v (.lptr 2) .ro x9), (10, .v (.lptr 2) .ro x10), (11, .v (.lptr 2) .ro x11), (12, .v .str .ro x12), (15, .v (.lptr 2) .ro x15), (79, .v .bool .ro x79)], scr := [], mems := [] } : ST cx)
noncomputable def u3 (k : Nat) : T3 := fun (x1 x2 : List (Int)) (x9 x10 x11 : Option (Nat × N2)) (x12 : List UInt8) (x15 : Option (Nat × N2)) (x79 : Bool) => uK (run E h k c13) (s3 x1 x2 x9 x10 x11 x12 x15 x79) (K27 k)
noncomputable abbrev l3 (k : Nat) : T3 := fun (x1 x2 : List (Int)) (x9 x10 x11 : Option (Nat × N2)) (x12 : List UInt8) (x15 : Option (Nat × N2)) (x79 : Bool) => cutK (run E h k c13) (s3 x1 x2 x9 x10 x11 x12 x15 x79) (K27 k)
abbrev s2 : (List (Int)) → (List (Int)) → (Option (Nat × N2)) → (Option (Nat × N2)) → ST cx := fun (x1 x2 : List (Int)) (x9 x10 : Option (Nat × N2)) => ({ vars := [(1, .v (.slice 3 (.int .i64)) .ro x1), (2, .v (.slice 3 (.int .i64)) .ro x2), (9, .v (.lptr 2) .ro x9), (10, .v (.lptr 2) .ro x10)], scr := [], mems := [] } : ST cx)
noncomputable def u2 (k : Nat) : T2 := fun (x1 x2 : List (Int)) (x9 x10 : Option (Nat × N2)) => uK (run E h k c5) (s2 x1 x2 x9 x10) (K11 k)
noncomputable abbrev l2 (k : Nat) : T2 := fun (x1 x2 : List (Int)) (x9 x10 : Option (Nat × N2)) => cutK (run E h k c5) (s2 x1 x2 x9 x10) (K11 k)
abbrev s1 : (List (Int)) → (List (Int)) → (Option (Nat × N2)) → (Option (Nat × N2)) → Bool → ST cx := fun (x1 x2 : List (Int)) (x9 x10 : Option (Nat × N2)) (x55 : Bool) => ({ vars := [(1, .v (.slice 3 (.int .i64)) .ro x1), (2, .v (.slice 3 (.int .i64)) .ro x2), (9, .v (.lptr 2) .ro x9), (10, .v (.lptr 2) .ro x10), (55, .v .bool .ro x55)], scr := [], mems := [] } : ST cx)
noncomputable def u1 (k : Nat) : T1 := fun (x1 x2 : List (Int)) (x9 x10 : Option (Nat × N2)) (x55 : Bool) => uK (run E h k c6) (s1 x1 x2 x9 x10 x55) (K13 k)
noncomputable abbrev l1 (k : Nat) : T1 := fun (x1 x2 : List (Int)) (x9 x10 : Option (Nat × N2)) (x55 : Bool) => cutK (run E h k c6) (s1 x1 x2 x9 x10 x55) (K13 k)
noncomputable def u0 (k : Nat) : T0 := fun (x0 : D2) (x1 x2 : List (Int)) (x3 : D2) => runOf (S := cx) E h k Try.f6 [.val ty2, .val (.slice 3 (.int .i64)), .val (.slice 3 (.int .i64)), .val ty2] .bool .ro (x0, x1, x2, x3, ())
def t11 (f9 : T9) : T11 := fun (x1 x2 : List (Int)) (x9 x16 : Option (Nat × N2)) (x21 : Int) => 
  (withinR x21 (List.length x1) fun q22 => (withinR x21 (List.length x2) fun q23 => (iteB (!decide ((List.getD x1 q22 (0 : Int)) = (List.getD x2 q23 (0 : Int)))) (bindR (s_tree_AtL (x9, (x2, ()))) fun r24 => (bindR (s_tree_AtL (x16, (x2, ()))) fun r25 => (bindR (s_ref15_SameE (r24.1.1, (r25.1.1, ()))) fun r26 => (some (r26.1, ()))))) (f9 x1 x2 x9 x16 (w64 (x21 + (1 : Int)))))))
theorem e11 (k n9 : Nat) : u11 k n9 = t11 (l9 k n9) := by kernel_rfl
theorem g11 (k n9 : Nat) : l11 k n9 = u11 k n9 := funext fun _ => funext fun _ => funext fun _ => funext fun _ => funext fun _ => cut_u _ _ _
theorem d11 {x9 y9 : T9} (h9 : x9 = y9) : t11 x9 = t11 y9 := by subst h9; rfl
def p11 (k : Nat) (a9 : T9) : T11 := t11 a9
theorem o11 (k n9 : Nat) (a9 : T9) (h9 : l9 k n9 = a9) : l11 k n9 = p11 k a9 := (Eq.trans (b := u11 k n9) (g11 k n9) (Eq.trans (b := t11 (l9 k n9)) (e11 k n9) (Eq.trans (b := t11 a9) (d11 h9) (by kernel_rfl))))
def t12 : T12 := 
  (some (true, ()))
theorem e12 (k : Nat) : u12 k = t12 := by kernel_rfl
theorem g12 (k : Nat) : l12 k = u12 k := cut_u _ _ _
def p12 (k : Nat) : T12 := t12
theorem o12 (k : Nat) : l12 k = p12 k := (Eq.trans (b := u12 k) (g12 k) (Eq.trans (b := t12) (e12 k) (by kernel_rfl)))
def t10 (f11 : T11) (f12 : T12) : T10 := fun (x1 x2 : List (Int)) (x9 x16 : Option (Nat × N2)) (x21 : Int) (x169 : Bool) => 
  (iteB x169 (f11 x1 x2 x9 x16 x21) f12)
theorem e10 (k n9 : Nat) : u10 k n9 = t10 (l11 k n9) (l12 k) := by kernel_rfl
theorem g10 (k n9 : Nat) : l10 k n9 = u10 k n9 := funext fun _ => funext fun _ => funext fun _ => funext fun _ => funext fun _ => funext fun _ => cut_u _ _ _
theorem d10 {x11 y11 : T11} {x12 y12 : T12} (h11 : x11 = y11) (h12 : x12 = y12) : t10 x11 x12 = t10 y11 y12 := by subst h11; subst h12; rfl
def p10 (k : Nat) (a9 : T9) : T10 := t10 (p11 k a9) (p12 k)
theorem o10 (k n9 : Nat) (a9 : T9) (h9 : l9 k n9 = a9) : l10 k n9 = p10 k a9 := (Eq.trans (b := u10 k n9) (g10 k n9) (Eq.trans (b := t10 (l11 k n9) (l12 k)) (e10 k n9) (Eq.trans (b := t10 (p11 k a9) (p12 k)) (d10 (o11 k n9 a9 h9) (o12 k)) (by kernel_rfl))))
def t9 (f10 : T10) : T9 := fun (x1 x2 : List (Int)) (x9 x16 : Option (Nat × N2)) (x21 : Int) => 
  (iteB (decide (x21 < ((List.length x1 : Nat) : Int))) (f10 x1 x2 x9 x16 x21 (decide (x21 < ((List.length x2 : Nat) : Int)))) (f10 x1 x2 x9 x16 x21 false))
theorem e9 (k n9 : Nat) : u9 k (n9 + 1) = t9 (l10 k n9) := by kernel_rfl
theorem g9 (k n9 : Nat) : l9 k (n9 + 1) = u9 k (n9 + 1) := funext fun _ => funext fun _ => funext fun _ => funext fun _ => funext fun _ => cut_u _ _ _
theorem d9 {x10 y10 : T10} (h10 : x10 = y10) : t9 x10 = t9 y10 := by subst h10; rfl
def p9 (k : Nat) : Nat → T9
  | 0 => fun _ _ _ _ _ => none
  | n9 + 1 => t9 (p10 k (p9 k n9))
theorem o9 (k : Nat) : ∀ n9, l9 k n9 = p9 k n9 := by
  intro n9
  induction n9 with
  | zero => kernel_rfl
  | succ n9 ih => exact (Eq.trans (b := u9 k (n9 + 1)) (g9 k n9) (Eq.trans (b := t9 (l10 k n9)) (e9 k n9) (Eq.trans (b := t9 (p10 k (p9 k n9))) (d9 (o10 k n9 (p9 k n9) ih)) (by kernel_rfl))))
def t8 (f9 : T9) : T8 := fun (x1 x2 : List (Int)) (x9 x16 : Option (Nat × N2)) => 
  (f9 x1 x2 x9 x16 (0 : Int))
theorem e8 (k : Nat) : u8 k = t8 (l9 k k) := by kernel_rfl
theorem g8 (k : Nat) : l8 k = u8 k := funext fun _ => funext fun _ => funext fun _ => funext fun _ => cut_u _ _ _
theorem d8 {x9 y9 : T9} (h9 : x9 = y9) : t8 x9 = t8 y9 := by subst h9; rfl
def p8 (k : Nat) : T8 := t8 (p9 k k)
theorem o8 (k : Nat) : l8 k = p8 k := (Eq.trans (b := u8 k) (g8 k) (Eq.trans (b := t8 (l9 k k)) (e8 k) (Eq.trans (b := t8 (p9 k k)) (d8 (o9 k k)) (by kernel_rfl))))
def t7 (f8 : T8) : T7 := fun (x1 x2 : List (Int)) (x9 x16 : Option (Nat × N2)) (x159 : Bool) => 
  (iteB x159 (some (false, ())) (f8 x1 x2 x9 x16))
theorem e7 (k : Nat) : u7 k = t7 (l8 k) := by kernel_rfl
theorem g7 (k : Nat) : l7 k = u7 k := funext fun _ => funext fun _ => funext fun _ => funext fun _ => funext fun _ => cut_u _ _ _
theorem d7 {x8 y8 : T8} (h8 : x8 = y8) : t7 x8 = t7 y8 := by subst h8; rfl
def p7 (k : Nat) : T7 := t7 (p8 k)
theorem o7 (k : Nat) : l7 k = p7 k := (Eq.trans (b := u7 k) (g7 k) (Eq.trans (b := t7 (l8 k)) (e7 k) (Eq.trans (b := t7 (p8 k)) (d7 (o8 k)) (by kernel_rfl))))
def t6 (f7 : T7) : T6 := fun (x1 x2 : List (Int)) (x9 x10 x11 : Option (Nat × N2)) (x12 : List UInt8) (x16 : Option (Nat × N2)) (x17 : Int) => 
  (bindL (q_ref15_PutL (x9, (x1, (x10, ())))) fun r15 => (bindR (s_tree_AtL (x16, (x1, ()))) fun r16 => (iteB (!decide (x17 = (0 : Int))) (f7 x1 x2 x9 x16 true) (bindR (s_ref15_SameE (x16, (r15.1, ()))) fun r17 => (iteB (notB r17.1) (f7 x1 x2 x9 x16 true) (bindR x16 fun z18 => (bindR r15.1 fun z19 => (iteB (!decide ((out2 z18.2).2.2.2.2.1 = (out2 z19.2).2.2.2.2.1)) (f7 x1 x2 x9 x16 true) (iteB (notB r16.1.2) (f7 x1 x2 x9 x16 true) (bindR (s_ref15_SameE (r16.1.1, (x10, ()))) fun r20 => (iteB (notB r20.1) (f7 x1 x2 x9 x16 true) (bindR (s_ref15_ShowE ((([] : List (List UInt8)), ((0 : Int), ((0 : Int), (([] : List ((Int) × (List (Int)))), (([] : List (Int)), (([] : List (Int)), (([] : List (List (Int))), (([] : List (List (Int))), ([] : List (List (Int))))))))))), (x11, ()))) fun r21 => (f7 x1 x2 x9 x16 (!(decide (r21.1 = x12))))))))))))))))
theorem e6 (k : Nat) : u6 k = t6 (l7 k) := by kernel_rfl
theorem g6 (k : Nat) : l6 k = u6 k := funext fun _ => funext fun _ => funext fun _ => funext fun _ => funext fun _ => funext fun _ => funext fun _ => funext fun _ => cut_u _ _ _
theorem d6 {x7 y7 : T7} (h7 : x7 = y7) : t6 x7 = t6 y7 := by subst h7; rfl
def p6 (k : Nat) : T6 := t6 (p7 k)
theorem o6 (k : Nat) : l6 k = p6 k := (Eq.trans (b := u6 k) (g6 k) (Eq.trans (b := t6 (l7 k)) (e6 k) (Eq.trans (b := t6 (p7 k)) (d6 (o7 k)) (by kernel_rfl))))
def t5 (f6 : T6) : T5 := fun (x1 x2 : List (Int)) (x9 x10 x11 : Option (Nat × N2)) (x12 : List UInt8) (x16 : Option (Nat × N2)) (x17 : Int) (x107 : Bool) => 
  (iteB x107 (iteB (Option.isNone x16) (some ((decide (x17 = (8 : Int))), ())) (some (false, ()))) (f6 x1 x2 x9 x10 x11 x12 x16 x17))
theorem e5 (k : Nat) : u5 k = t5 (l6 k) := by kernel_rfl
theorem g5 (k : Nat) : l5 k = u5 k := funext fun _ => funext fun _ => funext fun _ => funext fun _ => funext fun _ => funext fun _ => funext fun _ => funext fun _ => funext fun _ => cut_u _ _ _
theorem d5 {x6 y6 : T6} (h6 : x6 = y6) : t5 x6 = t5 y6 := by subst h6; rfl
def p5 (k : Nat) : T5 := t5 (p6 k)
theorem o5 (k : Nat) : l5 k = p5 k := (Eq.trans (b := u5 k) (g5 k) (Eq.trans (b := t5 (l6 k)) (e5 k) (Eq.trans (b := t5 (p6 k)) (d5 (o6 k)) (by kernel_rfl))))
def t4 (f5 : T5) : T4 := fun (x1 x2 : List (Int)) (x9 x10 x11 : Option (Nat × N2)) (x12 : List UInt8) (x15 : Option (Nat × N2)) => 
  (bindL (q_tree_PutL (x9, (x1, (x10, ())))) fun r12 => (iteB (Option.isNone x15) (iteB (Option.isNone r12.1.1) (some ((decide (r12.1.2 = (7 : Int))), ())) (some (false, ()))) (iteB (Option.isNone x10) (f5 x1 x2 x9 x10 x11 x12 r12.1.1 r12.1.2 true) (bindR x10 fun z13 => (bindR x15 fun z14 => (f5 x1 x2 x9 x10 x11 x12 r12.1.1 r12.1.2 (!decide ((out2 z13.2).1 = (out2 z14.2).1))))))))
theorem e4 (k : Nat) : u4 k = t4 (l5 k) := by kernel_rfl
theorem g4 (k : Nat) : l4 k = u4 k := funext fun _ => funext fun _ => funext fun _ => funext fun _ => funext fun _ => funext fun _ => funext fun _ => cut_u _ _ _
theorem d4 {x5 y5 : T5} (h5 : x5 = y5) : t4 x5 = t4 y5 := by subst h5; rfl
def p4 (k : Nat) : T4 := t4 (p5 k)
theorem o4 (k : Nat) : l4 k = p4 k := (Eq.trans (b := u4 k) (g4 k) (Eq.trans (b := t4 (l5 k)) (e4 k) (Eq.trans (b := t4 (p5 k)) (d4 (o5 k)) (by kernel_rfl))))
def t3 (f4 : T4) : T3 := fun (x1 x2 : List (Int)) (x9 x10 x11 : Option (Nat × N2)) (x12 : List UInt8) (x15 : Option (Nat × N2)) (x79 : Bool) => 
  (iteB x79 (some (false, ())) (f4 x1 x2 x9 x10 x11 x12 x15))
theorem e3 (k : Nat) : u3 k = t3 (l4 k) := by kernel_rfl
theorem g3 (k : Nat) : l3 k = u3 k := funext fun _ => funext fun _ => funext fun _ => funext fun _ => funext fun _ => funext fun _ => funext fun _ => funext fun _ => cut_u _ _ _
theorem d3 {x4 y4 : T4} (h4 : x4 = y4) : t3 x4 = t3 y4 := by subst h4; rfl
def p3 (k : Nat) : T3 := t3 (p4 k)
theorem o3 (k : Nat) : l3 k = p3 k := (Eq.trans (b := u3 k) (g3 k) (Eq.trans (b := t3 (l4 k)) (e3 k) (Eq.trans (b := t3 (p4 k)) (d3 (o4 k)) (by kernel_rfl))))
def t2 (f3 : T3) : T2 := fun (x1 x2 : List (Int)) (x9 x10 : Option (Nat × N2)) => 
  (bindL (q_ref15_PutL (x9, (([] : List (Int)), (x9, ())))) fun r8 => (bindR (s_ref15_ShowE ((([] : List (List UInt8)), ((0 : Int), ((0 : Int), (([] : List ((Int) × (List (Int)))), (([] : List (Int)), (([] : List (Int)), (([] : List (List (Int))), (([] : List (List (Int))), ([] : List (List (Int))))))))))), (x9, ()))) fun r9 => (bindR (s_tree_AtL (x9, (x1, ()))) fun r10 => (bindR (s_ref15_AtL (x9, (x1, ()))) fun r11 => (iteB (!(r10.1.2 == (!(Option.isNone r11.1)))) (f3 x1 x2 x9 x10 r8.1 r9.1 r11.1 true) (f3 x1 x2 x9 x10 r8.1 r9.1 r11.1 (!(lblE r10.1.1 r11.1))))))))
theorem e2 (k : Nat) : u2 k = t2 (l3 k) := by kernel_rfl
theorem g2 (k : Nat) : l2 k = u2 k := funext fun _ => funext fun _ => funext fun _ => funext fun _ => cut_u _ _ _
theorem d2 {x3 y3 : T3} (h3 : x3 = y3) : t2 x3 = t2 y3 := by subst h3; rfl
def p2 (k : Nat) : T2 := t2 (p3 k)
theorem o2 (k : Nat) : l2 k = p2 k := (Eq.trans (b := u2 k) (g2 k) (Eq.trans (b := t2 (l3 k)) (e2 k) (Eq.trans (b := t2 (p3 k)) (d2 (o3 k)) (by kernel_rfl))))
def t1 (f2 : T2) : T1 := fun (x1 x2 : List (Int)) (x9 x10 : Option (Nat × N2)) (x55 : Bool) => 
  (iteB x55 (some (true, ())) (f2 x1 x2 x9 x10))
theorem e1 (k : Nat) : u1 k = t1 (l2 k) := by kernel_rfl
theorem g1 (k : Nat) : l1 k = u1 k := funext fun _ => funext fun _ => funext fun _ => funext fun _ => funext fun _ => cut_u _ _ _
theorem d1 {x2 y2 : T2} (h2 : x2 = y2) : t1 x2 = t1 y2 := by subst h2; rfl
def p1 (k : Nat) : T1 := t1 (p2 k)
theorem o1 (k : Nat) : l1 k = p1 k := (Eq.trans (b := u1 k) (g1 k) (Eq.trans (b := t1 (l2 k)) (e1 k) (Eq.trans (b := t1 (p2 k)) (d1 (o2 k)) (by kernel_rfl))))
def t0 (f1 : T1) : T0 := fun (x0 : D2) (x1 x2 : List (Int)) (x3 : D2) => 
  (bindR (s_law15_alive ()) fun r1 => (iteB (notB r1.1) (some (false, ())) (bindL (q_ref15_OfL (x0, ())) fun r2 => (bindL (q_ref15_OfL (x3, ())) fun r3 => (bindR (s_law15_GreatE (r2.1, ())) fun r4 => (iteB r4.1 (f1 x1 x2 r2.1 r3.1 true) (bindR (s_law15_GreatE (r3.1, ())) fun r5 => (iteB r5.1 (f1 x1 x2 r2.1 r3.1 true) (iteB (decide ((100 : Int) < ((List.length x1 : Nat) : Int))) (f1 x1 x2 r2.1 r3.1 true) (iteB (decide ((100 : Int) < ((List.length x2 : Nat) : Int))) (f1 x1 x2 r2.1 r3.1 true) (bindR (s_law15_bareE (r2.1, ())) fun r6 => (iteB r6.1 (f1 x1 x2 r2.1 r3.1 true) (bindR (s_law15_bareE (r3.1, ())) fun r7 => (f1 x1 x2 r2.1 r3.1 r7.1))))))))))))))
theorem e0 (k : Nat) : u0 k = t0 (l1 k) := by kernel_rfl
theorem d0 {x1 y1 : T1} (h1 : x1 = y1) : t0 x1 = t0 y1 := by subst h1; rfl
def p0 (k : Nat) : T0 := t0 (p1 k)
theorem o0 (k : Nat) : u0 k = p0 k := (Eq.trans (b := t0 (l1 k)) (e0 k) (Eq.trans (b := t0 (p1 k)) (d0 (o1 k)) (by kernel_rfl)))
end law15_TreePuts
def s_law15_TreePuts (a : (D2) × ((List (Int)) × ((List (Int)) × ((D2) × (Unit))))) : Option ((Bool) × (Unit)) := law15_TreePuts.p0 (fuel) a.1 a.2.1 a.2.2.1 a.2.2.2.1
noncomputable def F_law15_TreePuts : FSpec cx.toNm := { ps := [.val ty2, .val (.slice 3 (.int .i64)), .val (.slice 3 (.int .i64)), .val ty2], nres := 1, rt := .bool, rm := .ro, f := s_law15_TreePuts }
theorem w_law15_TreePuts (a : (D2) × ((List (Int)) × ((List (Int)) × ((D2) × (Unit))))) : runOf (S := cx) law15_TreePuts.E law15_TreePuts.h (fuel) Try.f6 F_law15_TreePuts.ps F_law15_TreePuts.rt F_law15_TreePuts.rm a = F_law15_TreePuts.f a := Eq.trans (b := law15_TreePuts.u0 (fuel) a.1 a.2.1 a.2.2.1 a.2.2.2.1) (by kernel_rfl) (Eq.trans (b := law15_TreePuts.p0 (fuel) a.1 a.2.1 a.2.2.1 a.2.2.2.1) (congrFun (congrFun (congrFun (congrFun (law15_TreePuts.o0 (fuel)) a.1) a.2.1) a.2.2.1) a.2.2.2.1) (by kernel_rfl))
theorem ok_law15_TreePuts : FnOk Try.prog F_law15_TreePuts 6 := fn_of (F := F_law15_TreePuts) (hn := law15_TreePuts.h) (E := law15_TreePuts.E) cxOk (tysTL _ _ _) (fs_cons ok_law15_alive (fs_cons ok_law15_GreatE (fs_cons ok_ref15_SameE (fs_cons ok_ref15_OfL (fs_cons ok_ref15_AtL (fs_cons ok_law15_bareE (fs_cons ok_ref15_PutL (fs_cons ok_ref15_ShowE (fs_cons ok_tree_AtL (fs_cons ok_tree_PutL fs_nil)))))))))) follows Try.func6 (by kernel_rfl) (fun a r h => ⟨fuel, Eq.trans (w_law15_TreePuts a) h⟩)
end
end Go.Proofs.Ytdnkjfmneppkoaa.Vm.Tr
