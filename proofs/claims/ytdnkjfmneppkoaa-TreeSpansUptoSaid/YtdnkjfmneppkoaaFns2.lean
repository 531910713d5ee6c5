/- What the functions of nodes with labels compute, as plain functions; that they do. -/
import Derived.Test.YtdnkjfmneppkoaaLib
import Derived.Test.YtdnkjfmneppkoaaFns
import Derived.KernelRfl
namespace Go.Proofs.Ytdnkjfmneppkoaa.Vm.Tr
open Go Go.Proofs.Ytdnkjfmneppkoaa.Vm Go.Proofs Go.RowKit
set_option linter.unusedVariables false
set_option maxRecDepth 100000
noncomputable section
def q_law15_MadeL (a : (D0) × ((List (Int)) × (Unit))) : Option ((Option (Nat × N2)) × Unit → Prop) := match s_law15_Made (a.1, (a.2.1, ())) with
  | some r => some fun r' => erO r'.1 = r.1
  | none => none
def F_law15_MadeL : FSpec cx.toNm := { ps := [.val ty0, .val (.slice 5 (.int .u8))], nres := 1, rt := (.lptr 2), rm := .ro, f := fun _ => none, l := some q_law15_MadeL }
theorem ok_law15_MadeL : FnOk Try.prog F_law15_MadeL 13 := by
  refine FnOk.ofL (F := F_law15_MadeL) (q := q_law15_MadeL) ?_
  intro w Z own vs a p hZ hown hA hG hx
  match vs, hA with
  | [v0, v1], hA =>
    obtain ⟨⟨c0, g0, k0⟩, ⟨⟨c1, g1, k1⟩, _⟩⟩ := hA
    have hx : (match s_law15_Made (a.1, (a.2.1, ())) with | some r => some (fun (r' : (Option (Nat × N2)) × Unit) => erO r'.1 = r.1) | none => none) = some p := hx
    cases hr : s_law15_Made (a.1, (a.2.1, ())) with
    | none => rw [hr] at hx; cases hx
    | some r =>
      rw [hr] at hx
      cases hx
      refine Enters.mono ((ok_law15_Made.zero rfl rfl rfl) w Z own [v0, v1] (a.1, (a.2.1, ())) r hZ hown ⟨⟨c0, g0, k0⟩, ⟨⟨c1, g1, k1⟩, trivial⟩⟩ hG hr) fun v w' h => ?_
      obtain ⟨own', h1, h2, _⟩ := h
      obtain ⟨y, hy, h3⟩ := lab_res h2
      exact ⟨(y, ()), hy, own', h1, h3, trivial⟩
  | [], hA => exact (hA).elim
  | [_], hA => exact (hA.2).elim
  | _ :: _ :: _ :: _, hA => exact (hA.2.2).elim
def s_law15_GreatE (a : (Option (Nat × N2)) × (Unit)) : Option ((Bool) × Unit) := s_law15_Great (erO a.1, ())
def F_law15_GreatE : FSpec cx.toNm := { ps := [.val (.lptr 2)], nres := 1, rt := .bool, rm := .ro, f := s_law15_GreatE }
theorem ok_law15_GreatE : FnOk Try.prog F_law15_GreatE 10 := by
  intro w Z own vs a r hZ hown hA hG hx
  match vs, hA with
  | [v0], hA =>
    obtain ⟨⟨c0, g0, k0⟩, _⟩ := hA
    exact (ok_law15_Great.zero rfl rfl rfl) w Z own [v0] (erO a.1, ()) r hZ hown ⟨⟨c0, g0, er_R k0⟩, trivial⟩ hG hx
  | [], hA => exact (hA).elim
  | _ :: _ :: _, hA => exact (hA.2).elim
def s_tree_SpanE (a : (Option (Nat × N2)) × ((List (Int)) × (Unit))) : Option (((Int) × ((Int) × (Int))) × Unit) := s_tree_Span (erO a.1, (a.2.1, ()))
def F_tree_SpanE : FSpec cx.toNm := { ps := [.val (.lptr 2), .val (.slice 3 (.int .i64))], nres := 3, rt := (.pair (.int .i64) (.pair (.int .i64) (.int .i64))), rm := .ro, f := s_tree_SpanE }
theorem ok_tree_SpanE : FnOk Try.prog F_tree_SpanE 22 := by
  intro w Z own vs a r hZ hown hA hG hx
  match vs, hA with
  | [v0, v1], hA =>
    obtain ⟨⟨c0, g0, k0⟩, ⟨⟨c1, g1, k1⟩, _⟩⟩ := hA
    exact (ok_tree_Span.zero rfl rfl rfl) w Z own [v0, v1] (erO a.1, (a.2.1, ())) r hZ hown ⟨⟨c0, g0, er_R k0⟩, ⟨⟨c1, g1, k1⟩, trivial⟩⟩ hG hx
  | [], hA => exact (hA).elim
  | [_], hA => exact (hA.2).elim
  | _ :: _ :: _ :: _, hA => exact (hA.2.2).elim
end
end Go.Proofs.Ytdnkjfmneppkoaa.Vm.Tr
namespace Go.Proofs.Ytdnkjfmneppkoaa.Vm.Tr
open Go Go.Proofs.Ytdnkjfmneppkoaa.Vm Go.Proofs
set_option linter.unusedVariables false
set_option maxRecDepth 100000
noncomputable section
namespace ref15_AtL
noncomputable def E : Env cx := { tys := tysL, fs := fsOf [] }
abbrev R := Option ((Option (Nat × N2)) × (Unit))
abbrev C := Exit → ST cx → R
noncomputable def b : Code := bodyC Try.f23
noncomputable def h : Hint := { vs := [0, 1, 4, 5], nil := [], cuts := [(2, ([0, 1, 5], []), ([0], [])), (3, ([0, 1, 5], []), ([0, 1, 5], [])), (5, ([0, 1, 5, 32], []), ([0, 1, 5], [])), (6, ([0, 1, 5], []), ([0, 1, 5], [])), (7, ([0], []), ([0], []))], ret := ([4], []), ords := [] }
noncomputable def K0 : C := fin (S := cx) E Try.f23.results.toList (.lptr 2) .ro [] []
noncomputable def c0 : Code := subC b [1]
noncomputable def K1 (k : Nat) : C := outD h c0 K0
noncomputable def K2 (k : Nat) : C := seqC E h k c0 K0
noncomputable def c1 : Code := subC b [1, 1]
noncomputable def K3 (k : Nat) : C := outD h c1 (K1 k)
noncomputable def K4 (k : Nat) : C := seqC E h k c1 (K1 k)
noncomputable def c2 : Code := subC b [1, 0, 1]
noncomputable def K5 (k : Nat) : C := outD h c2 (K4 k)
noncomputable def K6 (k : Nat) : C := seqC E h k c2 (K4 k)
noncomputable def K7 (k : Nat) : C := blockK 0 (K5 k)
noncomputable def c3 : Code := subC b [1, 0, 1, 0, 0]
noncomputable def K8 (k n1 : Nat) : C := loopD E h k c3 (K7 k) n1
noncomputable def c4 : Code := subC b [1, 0, 1, 0, 0, 1]
noncomputable def K9 (k n1 : Nat) : C := outD h c4 (K8 k n1)
noncomputable def K10 (k n1 : Nat) : C := seqC E h k c4 (K8 k n1)
noncomputable def c5 : Code := subC b [1, 0, 1, 0, 0, 0, 1]
noncomputable def K11 (k n1 : Nat) : C := outD h c5 (K10 k n1)
noncomputable def K12 (k n1 : Nat) : C := seqC E h k c5 (K10 k n1)
noncomputable def c6 : Code := subC b [1, 0, 1, 0, 0, 1, 1]
noncomputable def K13 (k n1 : Nat) : C := outD h c6 (K9 k n1)
noncomputable def K14 (k n1 : Nat) : C := seqC E h k c6 (K9 k n1)
noncomputable def K15 (k n1 : Nat) : C := blockK 1 (K14 k n1)
noncomputable def c7 : Code := subC b [1, 0, 1, 0, 0, 1, 0, 0, 1]
noncomputable def K16 (k n1 : Nat) : C := outD h c7 (K15 k n1)
noncomputable def K17 (k n1 : Nat) : C := seqC E h k c7 (K15 k n1)
noncomputable def c8 : Code := subC b [1, 0, 1, 0, 0, 1, 0, 0, 0, 1]
noncomputable def K18 (k n1 : Nat) : C := outD h c8 (K17 k n1)
noncomputable def K19 (k n1 : Nat) : C := seqC E h k c8 (K17 k n1)
noncomputable def c9 : Code := subC b [1, 0, 1, 0, 0, 1, 0, 0, 0, 1, 0, 1]
noncomputable def K20 (k n1 : Nat) : C := outD h c9 (K18 k n1)
noncomputable def K21 (k n1 : Nat) : C := seqC E h k c9 (K18 k n1)
noncomputable def c10 : Code := subC b [1, 1, 1]
noncomputable def K22 (k : Nat) : C := outD h c10 (K3 k)
noncomputable def K23 (k : Nat) : C := seqC E h k c10 (K3 k)
abbrev T5 := (Option (Nat × N2)) → (List (Int)) → Int → R
abbrev T4 := (Option (Nat × N2)) → (List (Int)) → Int → R
abbrev T2 := (Option (Nat × N2)) → (List (Int)) → Int → Bool → R
abbrev T3 := (Option (Nat × N2)) → R
abbrev T1 := (Option (Nat × N2)) → (List (Int)) → Int → R
abbrev T0 := (Option (Nat × N2)) → (List (Int)) → R
abbrev s5 : (Option (Nat × N2)) → (List (Int)) → Int → ST cx := fun (x0 : Option (Nat × N2)) (x1 : List (Int)) (x5 : Int) => ({ vars := [(0, .v (.lptr 2) .ro x0), (1, .v (.slice 3 (.int .i64)) .ro x1), (5, .v (.int .i64) .ro x5)], scr := [], mems := [] } : ST cx)
noncomputable def u5 (k n1 : Nat) : T5 := fun (x0 : Option (Nat × N2)) (x1 : List (Int)) (x5 : Int) => uK (run E h k c6) (s5 x0 x1 x5) (K13 k n1)
noncomputable abbrev l5 (k n1 : Nat) : T5 := fun (x0 : Option (Nat × N2)) (x1 : List (Int)) (x5 : Int) => cutK (run E h k c6) (s5 x0 x1 x5) (K13 k n1)
abbrev s4 : (Option (Nat × N2)) → (List (Int)) → Int → ST cx := fun (x0 : Option (Nat × N2)) (x1 : List (Int)) (x5 : Int) => ({ vars := [(0, .v (.lptr 2) .ro x0), (1, .v (.slice 3 (.int .i64)) .ro x1), (5, .v (.int .i64) .ro x5)], scr := [], mems := [] } : ST cx)
noncomputable def u4 (k n1 : Nat) : T4 := fun (x0 : Option (Nat × N2)) (x1 : List (Int)) (x5 : Int) => uK (run E h k c7) (s4 x0 x1 x5) (K16 k n1)
noncomputable abbrev l4 (k n1 : Nat) : T4 := fun (x0 : Option (Nat × N2)) (x1 : List (Int)) (x5 : Int) => cutK (run E h k c7) (s4 x0 x1 x5) (K16 k n1)
abbrev s2 : (Option (Nat × N2)) → (List (Int)) → Int → Bool → ST cx := fun (x0 : Option (Nat × N2)) (x1 : List (Int)) (x5 : Int) (x32 : Bool) => ({ vars := [(0, .v (.lptr 2) .ro x0), (1, .v (.slice 3 (.int .i64)) .ro x1), (5, .v (.int .i64) .ro x5), (32, .v .bool .ro x32)], scr := [], mems := [] } : ST cx)
noncomputable def u2 (k n1 : Nat) : T2 := fun (x0 : Option (Nat × N2)) (x1 : List (Int)) (x5 : Int) (x32 : Bool) => uK (run E h k c8) (s2 x0 x1 x5 x32) (K18 k n1)
noncomputable abbrev l2 (k n1 : Nat) : T2 := fun (x0 : Option (Nat × N2)) (x1 : List (Int)) (x5 : Int) (x32 : Bool) => cutK (run E h k c8) (s2 x0 x1 x5 x32) (K18 k n1)
abbrev s3 : (Option (Nat × N2)) → ST cx := fun (x0 : Option (Nat × N2)) => ({ vars := [(0, .v (.lptr 2) .ro x0)], scr := [], mems := [] } : ST cx)
noncomputable def u3 (k : Nat) : T3 := fun (x0 : Option (Nat × N2)) => uK (run E h k c1) (s3 x0) (K3 k)
noncomputable abbrev l3 (k : Nat) : T3 := fun (x0 : Option (Nat × N2)) => cutK (run E h k c1) (s3 x0) (K3 k)
abbrev s1 : (Option (Nat × N2)) → (List (Int)) → Int → ST cx := fun (x0 : Option (Nat × N2)) (x1 : List (Int)) (x5 : Int) => ({ vars := [(0, .v (.lptr 2) .ro x0), (1, .v (.slice 3 (.int .i64)) .ro x1), (5, .v (.int .i64) .ro x5)], scr := [], mems := [] } : ST cx)
noncomputable def u1 (k n1 : Nat) : T1 := fun (x0 : Option (Nat × N2)) (x1 : List (Int)) (x5 : Int) => uK (loopL E h k c3 (K7 k) n1) (s1 x0 x1 x5) ()
noncomputable abbrev l1 (k n1 : Nat) : T1 := fun (x0 : Option (Nat × N2)) (x1 : List (Int)) (x5 : Int) => cutK (loopL E h k c3 (K7 k) n1) (s1 x0 x1 x5) ()
noncomputable def u0 (k : Nat) : T0 := fun (x0 : Option (Nat × N2)) (x1 : List (Int)) => runOf (S := cx) E h k Try.f23 [.val (.lptr 2), .val (.slice 3 (.int .i64))] (.lptr 2) .ro (x0, x1, ())
def t5 (f1 : T1) : T5 := fun (x0 : Option (Nat × N2)) (x1 : List (Int)) (x5 : Int) => 
  (f1 x0 x1 (w64 (x5 + (1 : Int))))
theorem e5 (k n1 : Nat) : u5 k n1 = t5 (l1 k n1) := by kernel_rfl
theorem g5 (k n1 : Nat) : l5 k n1 = u5 k n1 := funext fun _ => funext fun _ => funext fun _ => cut_u _ _ _
theorem d5 {x1 y1 : T1} (h1 : x1 = y1) : t5 x1 = t5 y1 := by subst h1; rfl
def p5 (k : Nat) (a1 : T1) : T5 := t5 a1
theorem o5 (k n1 : Nat) (a1 : T1) (h1 : l1 k n1 = a1) : l5 k n1 = p5 k a1 := (Eq.trans (b := u5 k n1) (g5 k n1) (Eq.trans (b := t5 (l1 k n1)) (e5 k n1) (Eq.trans (b := t5 a1) (d5 h1) (by kernel_rfl))))
def t4 (f5 : T5) : T4 := fun (x0 : Option (Nat × N2)) (x1 : List (Int)) (x5 : Int) => 
  (bindR x0 fun z4 => (withinR x5 (List.length x1) fun q5 => (withinR (List.getD x1 q5 (0 : Int)) (List.length (out2 z4.2).2.2.2.1) fun q6 => (f5 (List.getD (out2 z4.2).2.2.2.1 q6 none) x1 x5))))
theorem e4 (k n1 : Nat) : u4 k n1 = t4 (l5 k n1) := by kernel_rfl
theorem g4 (k n1 : Nat) : l4 k n1 = u4 k n1 := funext fun _ => funext fun _ => funext fun _ => cut_u _ _ _
theorem d4 {x5 y5 : T5} (h5 : x5 = y5) : t4 x5 = t4 y5 := by subst h5; rfl
def p4 (k : Nat) (a1 : T1) : T4 := t4 (p5 k a1)
theorem o4 (k n1 : Nat) (a1 : T1) (h1 : l1 k n1 = a1) : l4 k n1 = p4 k a1 := (Eq.trans (b := u4 k n1) (g4 k n1) (Eq.trans (b := t4 (l5 k n1)) (e4 k n1) (Eq.trans (b := t4 (p5 k a1)) (d4 (o5 k n1 a1 h1)) (by kernel_rfl))))
def t2 (f4 : T4) : T2 := fun (x0 : Option (Nat × N2)) (x1 : List (Int)) (x5 : Int) (x32 : Bool) => 
  (iteB x32 (some (none, ())) (f4 x0 x1 x5))
theorem e2 (k n1 : Nat) : u2 k n1 = t2 (l4 k n1) := by kernel_rfl
theorem g2 (k n1 : Nat) : l2 k n1 = u2 k n1 := funext fun _ => funext fun _ => funext fun _ => funext fun _ => cut_u _ _ _
theorem d2 {x4 y4 : T4} (h4 : x4 = y4) : t2 x4 = t2 y4 := by subst h4; rfl
def p2 (k : Nat) (a1 : T1) : T2 := t2 (p4 k a1)
theorem o2 (k n1 : Nat) (a1 : T1) (h1 : l1 k n1 = a1) : l2 k n1 = p2 k a1 := (Eq.trans (b := u2 k n1) (g2 k n1) (Eq.trans (b := t2 (l4 k n1)) (e2 k n1) (Eq.trans (b := t2 (p4 k a1)) (d2 (o4 k n1 a1 h1)) (by kernel_rfl))))
def t3 : T3 := fun (x0 : Option (Nat × N2)) => 
  (some (x0, ()))
theorem e3 (k : Nat) : u3 k = t3 := by kernel_rfl
theorem g3 (k : Nat) : l3 k = u3 k := funext fun _ => cut_u _ _ _
def p3 (k : Nat) : T3 := t3
theorem o3 (k : Nat) : l3 k = p3 k := (Eq.trans (b := u3 k) (g3 k) (Eq.trans (b := t3) (e3 k) (by kernel_rfl)))
def t1 (f2 : T2) (f3 : T3) : T1 := fun (x0 : Option (Nat × N2)) (x1 : List (Int)) (x5 : Int) => 
  (iteB (decide (x5 < ((List.length x1 : Nat) : Int))) (iteB (Option.isNone x0) (f2 x0 x1 x5 true) (withinR x5 (List.length x1) fun q1 => (iteB (decide ((List.getD x1 q1 (0 : Int)) < (0 : Int))) (f2 x0 x1 x5 true) (withinR x5 (List.length x1) fun q2 => (bindR x0 fun z3 => (f2 x0 x1 x5 (decide (((List.length (out2 z3.2).2.2.2.1 : Nat) : Int) ≤ (List.getD x1 q2 (0 : Int)))))))))) (f3 x0))
theorem e1 (k n1 : Nat) : u1 k (n1 + 1) = t1 (l2 k n1) (l3 k) := by kernel_rfl
theorem g1 (k n1 : Nat) : l1 k (n1 + 1) = u1 k (n1 + 1) := funext fun _ => funext fun _ => funext fun _ => cut_u _ _ _
theorem d1 {x2 y2 : T2} {x3 y3 : T3} (h2 : x2 = y2) (h3 : x3 = y3) : t1 x2 x3 = t1 y2 y3 := by subst h2; subst h3; rfl
def p1 (k : Nat) : Nat → T1
  | 0 => fun _ _ _ => none
  | n1 + 1 => t1 (p2 k (p1 k n1)) (p3 k)
theorem o1 (k : Nat) : ∀ n1, l1 k n1 = p1 k n1 := by
  intro n1
  induction n1 with
  | zero => kernel_rfl
  | succ n1 ih => exact (Eq.trans (b := u1 k (n1 + 1)) (g1 k n1) (Eq.trans (b := t1 (l2 k n1) (l3 k)) (e1 k n1) (Eq.trans (b := t1 (p2 k (p1 k n1)) (p3 k)) (d1 (o2 k n1 (p1 k n1) ih) (o3 k)) (by kernel_rfl))))
def t0 (f1 : T1) : T0 := fun (x0 : Option (Nat × N2)) (x1 : List (Int)) => 
  (f1 x0 x1 (0 : Int))
theorem e0 (k : Nat) : u0 k = t0 (l1 k k) := by kernel_rfl
theorem d0 {x1 y1 : T1} (h1 : x1 = y1) : t0 x1 = t0 y1 := by subst h1; rfl
def p0 (k : Nat) : T0 := t0 (p1 k k)
theorem o0 (k : Nat) : u0 k = p0 k := (Eq.trans (b := t0 (l1 k k)) (e0 k) (Eq.trans (b := t0 (p1 k k)) (d0 (o1 k k)) (by kernel_rfl)))
end ref15_AtL
def s_ref15_AtL (a : (Option (Nat × N2)) × ((List (Int)) × (Unit))) : Option ((Option (Nat × N2)) × (Unit)) := ref15_AtL.p0 (fuel) a.1 a.2.1
noncomputable def F_ref15_AtL : FSpec cx.toNm := { ps := [.val (.lptr 2), .val (.slice 3 (.int .i64))], nres := 1, rt := (.lptr 2), rm := .ro, f := s_ref15_AtL }
theorem w_ref15_AtL (a : (Option (Nat × N2)) × ((List (Int)) × (Unit))) : runOf (S := cx) ref15_AtL.E ref15_AtL.h (fuel) Try.f23 F_ref15_AtL.ps F_ref15_AtL.rt F_ref15_AtL.rm a = F_ref15_AtL.f a := Eq.trans (b := ref15_AtL.u0 (fuel) a.1 a.2.1) (by kernel_rfl) (Eq.trans (b := ref15_AtL.p0 (fuel) a.1 a.2.1) (congrFun (congrFun (ref15_AtL.o0 (fuel)) a.1) a.2.1) (by kernel_rfl))
theorem ok_ref15_AtL : FnOk Try.prog F_ref15_AtL 23 := fn_of (F := F_ref15_AtL) (hn := ref15_AtL.h) (E := ref15_AtL.E) cxOk (tysTL _ _ _) fs_nil follows Try.func23 (by kernel_rfl) (fun a r h => ⟨fuel, Eq.trans (w_ref15_AtL a) h⟩)
noncomputable def Fr_ref15_TokensL (f : ((Option (Nat × N2)) × (Unit)) → Option ((List (Option (Nat × N2))) × (Unit))) : FSpec cx.toNm := { ps := [.val (.lptr 2)], nres := 1, rt := (.slice 35 (.lptr 2)), rm := .ro, f := f }
namespace ref15_TokensL
noncomputable def E (sf_ref15_TokensL : ((Option (Nat × N2)) × (Unit)) → Option ((List (Option (Nat × N2))) × (Unit))) : Env cx := { tys := tysL, fs := fsOf [(24, (Fr_ref15_TokensL sf_ref15_TokensL))] }
abbrev R := Option ((List (Option (Nat × N2))) × (Unit))
abbrev C := Exit → ST cx → R
noncomputable def b : Code := bodyC Try.f24
noncomputable def h : Hint := { vs := [0, 2, 3, 4, 5, 6], nil := [(3, (.own .ro)), (5, (.own .ro)), (15, (.own .ro))], cuts := [(6, ([0, 3, 4], []), ([3], [])), (9, ([3], []), ([3], [])), (10, ([0], []), ([0], [])), (12, ([0, 5, 6], []), ([5], [])), (15, ([5], []), ([5], []))], ret := ([2], []), ords := [] }
noncomputable def K0 (sf_ref15_TokensL : ((Option (Nat × N2)) × (Unit)) → Option ((List (Option (Nat × N2))) × (Unit))) : C := fin (S := cx) (E sf_ref15_TokensL) Try.f24.results.toList (.slice 35 (.lptr 2)) .ro [] []
noncomputable def c0 : Code := subC b [1]
noncomputable def K1 (sf_ref15_TokensL : ((Option (Nat × N2)) × (Unit)) → Option ((List (Option (Nat × N2))) × (Unit))) (k : Nat) : C := outD h c0 (K0 sf_ref15_TokensL)
noncomputable def K2 (sf_ref15_TokensL : ((Option (Nat × N2)) × (Unit)) → Option ((List (Option (Nat × N2))) × (Unit))) (k : Nat) : C := seqC (E sf_ref15_TokensL) h k c0 (K0 sf_ref15_TokensL)
noncomputable def c1 : Code := subC b [1, 1]
noncomputable def K3 (sf_ref15_TokensL : ((Option (Nat × N2)) × (Unit)) → Option ((List (Option (Nat × N2))) × (Unit))) (k : Nat) : C := outD h c1 (K1 sf_ref15_TokensL k)
noncomputable def K4 (sf_ref15_TokensL : ((Option (Nat × N2)) × (Unit)) → Option ((List (Option (Nat × N2))) × (Unit))) (k : Nat) : C := seqC (E sf_ref15_TokensL) h k c1 (K1 sf_ref15_TokensL k)
noncomputable def c2 : Code := subC b [1, 0, 1]
noncomputable def K5 (sf_ref15_TokensL : ((Option (Nat × N2)) × (Unit)) → Option ((List (Option (Nat × N2))) × (Unit))) (k : Nat) : C := outD h c2 (K4 sf_ref15_TokensL k)
noncomputable def K6 (sf_ref15_TokensL : ((Option (Nat × N2)) × (Unit)) → Option ((List (Option (Nat × N2))) × (Unit))) (k : Nat) : C := seqC (E sf_ref15_TokensL) h k c2 (K4 sf_ref15_TokensL k)
noncomputable def c3 : Code := subC b [1, 0, 1, 0, 1]
noncomputable def K7 (sf_ref15_TokensL : ((Option (Nat × N2)) × (Unit)) → Option ((List (Option (Nat × N2))) × (Unit))) (k : Nat) : C := outD h c3 (K5 sf_ref15_TokensL k)
noncomputable def K8 (sf_ref15_TokensL : ((Option (Nat × N2)) × (Unit)) → Option ((List (Option (Nat × N2))) × (Unit))) (k : Nat) : C := seqC (E sf_ref15_TokensL) h k c3 (K5 sf_ref15_TokensL k)
noncomputable def c4 : Code := subC b [1, 1, 1]
noncomputable def K9 (sf_ref15_TokensL : ((Option (Nat × N2)) × (Unit)) → Option ((List (Option (Nat × N2))) × (Unit))) (k : Nat) : C := outD h c4 (K3 sf_ref15_TokensL k)
noncomputable def K10 (sf_ref15_TokensL : ((Option (Nat × N2)) × (Unit)) → Option ((List (Option (Nat × N2))) × (Unit))) (k : Nat) : C := seqC (E sf_ref15_TokensL) h k c4 (K3 sf_ref15_TokensL k)
noncomputable def c5 : Code := subC b [1, 1, 0, 1]
noncomputable def K11 (sf_ref15_TokensL : ((Option (Nat × N2)) × (Unit)) → Option ((List (Option (Nat × N2))) × (Unit))) (k : Nat) : C := outD h c5 (K10 sf_ref15_TokensL k)
noncomputable def K12 (sf_ref15_TokensL : ((Option (Nat × N2)) × (Unit)) → Option ((List (Option (Nat × N2))) × (Unit))) (k : Nat) : C := seqC (E sf_ref15_TokensL) h k c5 (K10 sf_ref15_TokensL k)
noncomputable def c6 : Code := subC b [1, 1, 0, 1, 0, 1]
noncomputable def K13 (sf_ref15_TokensL : ((Option (Nat × N2)) × (Unit)) → Option ((List (Option (Nat × N2))) × (Unit))) (k : Nat) : C := outD h c6 (K11 sf_ref15_TokensL k)
noncomputable def K14 (sf_ref15_TokensL : ((Option (Nat × N2)) × (Unit)) → Option ((List (Option (Nat × N2))) × (Unit))) (k : Nat) : C := seqC (E sf_ref15_TokensL) h k c6 (K11 sf_ref15_TokensL k)
noncomputable def c7 : Code := subC b [1, 1, 0, 1, 0, 1, 1]
noncomputable def K15 (sf_ref15_TokensL : ((Option (Nat × N2)) × (Unit)) → Option ((List (Option (Nat × N2))) × (Unit))) (k : Nat) : C := outD h c7 (K13 sf_ref15_TokensL k)
noncomputable def K16 (sf_ref15_TokensL : ((Option (Nat × N2)) × (Unit)) → Option ((List (Option (Nat × N2))) × (Unit))) (k : Nat) : C := seqC (E sf_ref15_TokensL) h k c7 (K13 sf_ref15_TokensL k)
noncomputable def c8 : Code := subC b [1, 1, 0, 1, 0, 1, 0, 1]
noncomputable def K17 (sf_ref15_TokensL : ((Option (Nat × N2)) × (Unit)) → Option ((List (Option (Nat × N2))) × (Unit))) (k : Nat) : C := outD h c8 (K16 sf_ref15_TokensL k)
noncomputable def K18 (sf_ref15_TokensL : ((Option (Nat × N2)) × (Unit)) → Option ((List (Option (Nat × N2))) × (Unit))) (k : Nat) : C := seqC (E sf_ref15_TokensL) h k c8 (K16 sf_ref15_TokensL k)
noncomputable def K19 (sf_ref15_TokensL : ((Option (Nat × N2)) × (Unit)) → Option ((List (Option (Nat × N2))) × (Unit))) (k : Nat) : C := blockK 0 (K17 sf_ref15_TokensL k)
noncomputable def c9 : Code := subC b [1, 1, 0, 1, 0, 1, 0, 1, 0, 0]
noncomputable def K20 (sf_ref15_TokensL : ((Option (Nat × N2)) × (Unit)) → Option ((List (Option (Nat × N2))) × (Unit))) (k n1 : Nat) : C := loopD (E sf_ref15_TokensL) h k c9 (K19 sf_ref15_TokensL k) n1
noncomputable def c10 : Code := subC b [1, 1, 0, 1, 0, 1, 0, 1, 0, 0, 1]
noncomputable def K21 (sf_ref15_TokensL : ((Option (Nat × N2)) × (Unit)) → Option ((List (Option (Nat × N2))) × (Unit))) (k n1 : Nat) : C := outD h c10 (K20 sf_ref15_TokensL k n1)
noncomputable def K22 (sf_ref15_TokensL : ((Option (Nat × N2)) × (Unit)) → Option ((List (Option (Nat × N2))) × (Unit))) (k n1 : Nat) : C := seqC (E sf_ref15_TokensL) h k c10 (K20 sf_ref15_TokensL k n1)
noncomputable def c11 : Code := subC b [1, 1, 0, 1, 0, 1, 0, 1, 0, 0, 0, 1]
noncomputable def K23 (sf_ref15_TokensL : ((Option (Nat × N2)) × (Unit)) → Option ((List (Option (Nat × N2))) × (Unit))) (k n1 : Nat) : C := outD h c11 (K22 sf_ref15_TokensL k n1)
noncomputable def K24 (sf_ref15_TokensL : ((Option (Nat × N2)) × (Unit)) → Option ((List (Option (Nat × N2))) × (Unit))) (k n1 : Nat) : C := seqC (E sf_ref15_TokensL) h k c11 (K22 sf_ref15_TokensL k n1)
noncomputable def c12 : Code := subC b [1, 1, 0, 1, 0, 1, 0, 1, 0, 0, 1, 1]
noncomputable def K25 (sf_ref15_TokensL : ((Option (Nat × N2)) × (Unit)) → Option ((List (Option (Nat × N2))) × (Unit))) (k n1 : Nat) : C := outD h c12 (K21 sf_ref15_TokensL k n1)
noncomputable def K26 (sf_ref15_TokensL : ((Option (Nat × N2)) × (Unit)) → Option ((List (Option (Nat × N2))) × (Unit))) (k n1 : Nat) : C := seqC (E sf_ref15_TokensL) h k c12 (K21 sf_ref15_TokensL k n1)
noncomputable def K27 (sf_ref15_TokensL : ((Option (Nat × N2)) × (Unit)) → Option ((List (Option (Nat × N2))) × (Unit))) (k n1 : Nat) : C := blockK 1 (K26 sf_ref15_TokensL k n1)
noncomputable def c13 : Code := subC b [1, 1, 0, 1, 0, 1, 1, 1]
noncomputable def K28 (sf_ref15_TokensL : ((Option (Nat × N2)) × (Unit)) → Option ((List (Option (Nat × N2))) × (Unit))) (k : Nat) : C := outD h c13 (K15 sf_ref15_TokensL k)
noncomputable def K29 (sf_ref15_TokensL : ((Option (Nat × N2)) × (Unit)) → Option ((List (Option (Nat × N2))) × (Unit))) (k : Nat) : C := seqC (E sf_ref15_TokensL) h k c13 (K15 sf_ref15_TokensL k)
noncomputable def c14 : Code := subC b [1, 1, 1, 1]
noncomputable def K30 (sf_ref15_TokensL : ((Option (Nat × N2)) × (Unit)) → Option ((List (Option (Nat × N2))) × (Unit))) (k : Nat) : C := outD h c14 (K9 sf_ref15_TokensL k)
noncomputable def K31 (sf_ref15_TokensL : ((Option (Nat × N2)) × (Unit)) → Option ((List (Option (Nat × N2))) × (Unit))) (k : Nat) : C := seqC (E sf_ref15_TokensL) h k c14 (K9 sf_ref15_TokensL k)
noncomputable def c15 : Code := subC b [1, 1, 1, 1, 1]
noncomputable def K32 (sf_ref15_TokensL : ((Option (Nat × N2)) × (Unit)) → Option ((List (Option (Nat × N2))) × (Unit))) (k : Nat) : C := outD h c15 (K30 sf_ref15_TokensL k)
noncomputable def K33 (sf_ref15_TokensL : ((Option (Nat × N2)) × (Unit)) → Option ((List (Option (Nat × N2))) × (Unit))) (k : Nat) : C := seqC (E sf_ref15_TokensL) h k c15 (K30 sf_ref15_TokensL k)
noncomputable def c16 : Code := subC b [1, 1, 1, 1, 0, 1]
noncomputable def K34 (sf_ref15_TokensL : ((Option (Nat × N2)) × (Unit)) → Option ((List (Option (Nat × N2))) × (Unit))) (k : Nat) : C := outD h c16 (K33 sf_ref15_TokensL k)
noncomputable def K35 (sf_ref15_TokensL : ((Option (Nat × N2)) × (Unit)) → Option ((List (Option (Nat × N2))) × (Unit))) (k : Nat) : C := seqC (E sf_ref15_TokensL) h k c16 (K33 sf_ref15_TokensL k)
noncomputable def K36 (sf_ref15_TokensL : ((Option (Nat × N2)) × (Unit)) → Option ((List (Option (Nat × N2))) × (Unit))) (k : Nat) : C := blockK 2 (K34 sf_ref15_TokensL k)
noncomputable def c17 : Code := subC b [1, 1, 1, 1, 0, 1, 0, 0]
noncomputable def K37 (sf_ref15_TokensL : ((Option (Nat × N2)) × (Unit)) → Option ((List (Option (Nat × N2))) × (Unit))) (k n4 : Nat) : C := loopD (E sf_ref15_TokensL) h k c17 (K36 sf_ref15_TokensL k) n4
noncomputable def c18 : Code := subC b [1, 1, 1, 1, 0, 1, 0, 0, 1]
noncomputable def K38 (sf_ref15_TokensL : ((Option (Nat × N2)) × (Unit)) → Option ((List (Option (Nat × N2))) × (Unit))) (k n4 : Nat) : C := outD h c18 (K37 sf_ref15_TokensL k n4)
noncomputable def K39 (sf_ref15_TokensL : ((Option (Nat × N2)) × (Unit)) → Option ((List (Option (Nat × N2))) × (Unit))) (k n4 : Nat) : C := seqC (E sf_ref15_TokensL) h k c18 (K37 sf_ref15_TokensL k n4)
noncomputable def c19 : Code := subC b [1, 1, 1, 1, 0, 1, 0, 0, 0, 1]
noncomputable def K40 (sf_ref15_TokensL : ((Option (Nat × N2)) × (Unit)) → Option ((List (Option (Nat × N2))) × (Unit))) (k n4 : Nat) : C := outD h c19 (K39 sf_ref15_TokensL k n4)
noncomputable def K41 (sf_ref15_TokensL : ((Option (Nat × N2)) × (Unit)) → Option ((List (Option (Nat × N2))) × (Unit))) (k n4 : Nat) : C := seqC (E sf_ref15_TokensL) h k c19 (K39 sf_ref15_TokensL k n4)
noncomputable def c20 : Code := subC b [1, 1, 1, 1, 0, 1, 0, 0, 1, 1]
noncomputable def K42 (sf_ref15_TokensL : ((Option (Nat × N2)) × (Unit)) → Option ((List (Option (Nat × N2))) × (Unit))) (k n4 : Nat) : C := outD h c20 (K38 sf_ref15_TokensL k n4)
noncomputable def K43 (sf_ref15_TokensL : ((Option (Nat × N2)) × (Unit)) → Option ((List (Option (Nat × N2))) × (Unit))) (k n4 : Nat) : C := seqC (E sf_ref15_TokensL) h k c20 (K38 sf_ref15_TokensL k n4)
noncomputable def K44 (sf_ref15_TokensL : ((Option (Nat × N2)) × (Unit)) → Option ((List (Option (Nat × N2))) × (Unit))) (k n4 : Nat) : C := blockK 3 (K43 sf_ref15_TokensL k n4)
noncomputable def c21 : Code := subC b [1, 1, 1, 1, 1, 1]
noncomputable def K45 (sf_ref15_TokensL : ((Option (Nat × N2)) × (Unit)) → Option ((List (Option (Nat × N2))) × (Unit))) (k : Nat) : C := outD h c21 (K32 sf_ref15_TokensL k)
noncomputable def K46 (sf_ref15_TokensL : ((Option (Nat × N2)) × (Unit)) → Option ((List (Option (Nat × N2))) × (Unit))) (k : Nat) : C := seqC (E sf_ref15_TokensL) h k c21 (K32 sf_ref15_TokensL k)
abbrev T3 := (List (Option (Nat × N2))) → R
abbrev T1 := (Option (Nat × N2)) → (List (Option (Nat × N2))) → Int → R
abbrev T5 := (List (Option (Nat × N2))) → R
abbrev T4 := (Option (Nat × N2)) → (List (Option (Nat × N2))) → Int → R
abbrev T2 := (Option (Nat × N2)) → R
abbrev T0 := (Option (Nat × N2)) → R
abbrev s3 : (List (Option (Nat × N2))) → ST cx := fun (x3 : List (Option (Nat × N2))) => ({ vars := [(3, .v (.slice 35 (.lptr 2)) (.own .ro) x3)], scr := [], mems := [] } : ST cx)
noncomputable def u3 (sf_ref15_TokensL : ((Option (Nat × N2)) × (Unit)) → Option ((List (Option (Nat × N2))) × (Unit))) (k : Nat) : T3 := fun (x3 : List (Option (Nat × N2))) => uK (run (E sf_ref15_TokensL) h k c7) (s3 x3) (K15 sf_ref15_TokensL k)
noncomputable abbrev l3 (sf_ref15_TokensL : ((Option (Nat × N2)) × (Unit)) → Option ((List (Option (Nat × N2))) × (Unit))) (k : Nat) : T3 := fun (x3 : List (Option (Nat × N2))) => cutK (run (E sf_ref15_TokensL) h k c7) (s3 x3) (K15 sf_ref15_TokensL k)
abbrev s1 : (Option (Nat × N2)) → (List (Option (Nat × N2))) → Int → ST cx := fun (x0 : Option (Nat × N2)) (x3 : List (Option (Nat × N2))) (x4 : Int) => ({ vars := [(0, .v (.lptr 2) .ro x0), (3, .v (.slice 35 (.lptr 2)) (.own .ro) x3), (4, .v (.int .i64) .ro x4)], scr := [], mems := [] } : ST cx)
noncomputable def u1 (sf_ref15_TokensL : ((Option (Nat × N2)) × (Unit)) → Option ((List (Option (Nat × N2))) × (Unit))) (k n1 : Nat) : T1 := fun (x0 : Option (Nat × N2)) (x3 : List (Option (Nat × N2))) (x4 : Int) => uK (loopL (E sf_ref15_TokensL) h k c9 (K19 sf_ref15_TokensL k) n1) (s1 x0 x3 x4) ()
noncomputable abbrev l1 (sf_ref15_TokensL : ((Option (Nat × N2)) × (Unit)) → Option ((List (Option (Nat × N2))) × (Unit))) (k n1 : Nat) : T1 := fun (x0 : Option (Nat × N2)) (x3 : List (Option (Nat × N2))) (x4 : Int) => cutK (loopL (E sf_ref15_TokensL) h k c9 (K19 sf_ref15_TokensL k) n1) (s1 x0 x3 x4) ()
abbrev s5 : (List (Option (Nat × N2))) → ST cx := fun (x5 : List (Option (Nat × N2))) => ({ vars := [(5, .v (.slice 35 (.lptr 2)) (.own .ro) x5)], scr := [], mems := [] } : ST cx)
noncomputable def u5 (sf_ref15_TokensL : ((Option (Nat × N2)) × (Unit)) → Option ((List (Option (Nat × N2))) × (Unit))) (k : Nat) : T5 := fun (x5 : List (Option (Nat × N2))) => uK (run (E sf_ref15_TokensL) h k c15) (s5 x5) (K32 sf_ref15_TokensL k)
noncomputable abbrev l5 (sf_ref15_TokensL : ((Option (Nat × N2)) × (Unit)) → Option ((List (Option (Nat × N2))) × (Unit))) (k : Nat) : T5 := fun (x5 : List (Option (Nat × N2))) => cutK (run (E sf_ref15_TokensL) h k c15) (s5 x5) (K32 sf_ref15_TokensL k)
abbrev s4 : (Option (Nat × N2)) → (List (Option (Nat × N2))) → Int → ST cx := fun (x0 : Option (Nat × N2)) (x5 : List (Option (Nat × N2))) (x6 : Int) => ({ vars := [(0, .v (.lptr 2) .ro x0), (5, .v (.slice 35 (.lptr 2)) (.own .ro) x5), (6, .v (.int .i64) .ro x6)], scr := [], mems := [] } : ST cx)
noncomputable def u4 (sf_ref15_TokensL : ((Option (Nat × N2)) × (Unit)) → Option ((List (Option (Nat × N2))) × (Unit))) (k n4 : Nat) : T4 := fun (x0 : Option (Nat × N2)) (x5 : List (Option (Nat × N2))) (x6 : Int) => uK (loopL (E sf_ref15_TokensL) h k c17 (K36 sf_ref15_TokensL k) n4) (s4 x0 x5 x6) ()
noncomputable abbrev l4 (sf_ref15_TokensL : ((Option (Nat × N2)) × (Unit)) → Option ((List (Option (Nat × N2))) × (Unit))) (k n4 : Nat) : T4 := fun (x0 : Option (Nat × N2)) (x5 : List (Option (Nat × N2))) (x6 : Int) => cutK (loopL (E sf_ref15_TokensL) h k c17 (K36 sf_ref15_TokensL k) n4) (s4 x0 x5 x6) ()
abbrev s2 : (Option (Nat × N2)) → ST cx := fun (x0 : Option (Nat × N2)) => ({ vars := [(0, .v (.lptr 2) .ro x0)], scr := [], mems := [] } : ST cx)
noncomputable def u2 (sf_ref15_TokensL : ((Option (Nat × N2)) × (Unit)) → Option ((List (Option (Nat × N2))) × (Unit))) (k : Nat) : T2 := fun (x0 : Option (Nat × N2)) => uK (run (E sf_ref15_TokensL) h k c4) (s2 x0) (K9 sf_ref15_TokensL k)
noncomputable abbrev l2 (sf_ref15_TokensL : ((Option (Nat × N2)) × (Unit)) → Option ((List (Option (Nat × N2))) × (Unit))) (k : Nat) : T2 := fun (x0 : Option (Nat × N2)) => cutK (run (E sf_ref15_TokensL) h k c4) (s2 x0) (K9 sf_ref15_TokensL k)
noncomputable def u0 (sf_ref15_TokensL : ((Option (Nat × N2)) × (Unit)) → Option ((List (Option (Nat × N2))) × (Unit))) (k : Nat) : T0 := fun (x0 : Option (Nat × N2)) => runOf (S := cx) (E sf_ref15_TokensL) h k Try.f24 [.val (.lptr 2)] (.slice 35 (.lptr 2)) .ro (x0, ())
def t3 (sf_ref15_TokensL : ((Option (Nat × N2)) × (Unit)) → Option ((List (Option (Nat × N2))) × (Unit))) : T3 := fun (x3 : List (Option (Nat × N2))) => 
  (some (x3, ()))
theorem e3 (sf_ref15_TokensL : ((Option (Nat × N2)) × (Unit)) → Option ((List (Option (Nat × N2))) × (Unit))) (k : Nat) : u3 sf_ref15_TokensL k = t3 sf_ref15_TokensL := by kernel_rfl
theorem g3 (sf_ref15_TokensL : ((Option (Nat × N2)) × (Unit)) → Option ((List (Option (Nat × N2))) × (Unit))) (k : Nat) : l3 sf_ref15_TokensL k = u3 sf_ref15_TokensL k := funext fun _ => cut_u _ _ _
def p3 (sf_ref15_TokensL : ((Option (Nat × N2)) × (Unit)) → Option ((List (Option (Nat × N2))) × (Unit))) (k : Nat) : T3 := t3 sf_ref15_TokensL
theorem o3 (sf_ref15_TokensL : ((Option (Nat × N2)) × (Unit)) → Option ((List (Option (Nat × N2))) × (Unit))) (k : Nat) : l3 sf_ref15_TokensL k = p3 sf_ref15_TokensL k := (Eq.trans (b := u3 sf_ref15_TokensL k) (g3 sf_ref15_TokensL k) (Eq.trans (b := t3 sf_ref15_TokensL) (e3 sf_ref15_TokensL k) (by kernel_rfl)))
def t1 (sf_ref15_TokensL : ((Option (Nat × N2)) × (Unit)) → Option ((List (Option (Nat × N2))) × (Unit))) (f1 : T1) (f3 : T3) : T1 := fun (x0 : Option (Nat × N2)) (x3 : List (Option (Nat × N2))) (x4 : Int) => 
  (bindR x0 fun z2 => (iteB (decide (x4 < ((List.length (out2 z2.2).2.2.2.1 : Nat) : Int))) (bindR x0 fun z3 => (withinR x4 (List.length (out2 z3.2).2.2.2.1) fun q4 => (bindR (sf_ref15_TokensL ((List.getD (out2 z3.2).2.2.2.1 q4 none), ())) fun r5 => (mustR (room x3 r5.1) (f1 x0 (x3 ++ r5.1) (w64 (x4 + (1 : Int)))))))) (f3 x3)))
theorem e1 (sf_ref15_TokensL : ((Option (Nat × N2)) × (Unit)) → Option ((List (Option (Nat × N2))) × (Unit))) (k n1 : Nat) : u1 sf_ref15_TokensL k (n1 + 1) = t1 sf_ref15_TokensL (l1 sf_ref15_TokensL k n1) (l3 sf_ref15_TokensL k) := by kernel_rfl
theorem g1 (sf_ref15_TokensL : ((Option (Nat × N2)) × (Unit)) → Option ((List (Option (Nat × N2))) × (Unit))) (k n1 : Nat) : l1 sf_ref15_TokensL k (n1 + 1) = u1 sf_ref15_TokensL k (n1 + 1) := funext fun _ => funext fun _ => funext fun _ => cut_u _ _ _
theorem d1 (sf_ref15_TokensL : ((Option (Nat × N2)) × (Unit)) → Option ((List (Option (Nat × N2))) × (Unit))) {x1 y1 : T1} {x3 y3 : T3} (h1 : x1 = y1) (h3 : x3 = y3) : t1 sf_ref15_TokensL x1 x3 = t1 sf_ref15_TokensL y1 y3 := by subst h1; subst h3; rfl
def p1 (sf_ref15_TokensL : ((Option (Nat × N2)) × (Unit)) → Option ((List (Option (Nat × N2))) × (Unit))) (k : Nat) : Nat → T1
  | 0 => fun _ _ _ => none
  | n1 + 1 => t1 sf_ref15_TokensL (p1 sf_ref15_TokensL k n1) (p3 sf_ref15_TokensL k)
theorem o1 (sf_ref15_TokensL : ((Option (Nat × N2)) × (Unit)) → Option ((List (Option (Nat × N2))) × (Unit))) (k : Nat) : ∀ n1, l1 sf_ref15_TokensL k n1 = p1 sf_ref15_TokensL k n1 := by
  intro n1
  induction n1 with
  | zero => kernel_rfl
  | succ n1 ih => exact (Eq.trans (b := u1 sf_ref15_TokensL k (n1 + 1)) (g1 sf_ref15_TokensL k n1) (Eq.trans (b := t1 sf_ref15_TokensL (l1 sf_ref15_TokensL k n1) (l3 sf_ref15_TokensL k)) (e1 sf_ref15_TokensL k n1) (Eq.trans (b := t1 sf_ref15_TokensL (p1 sf_ref15_TokensL k n1) (p3 sf_ref15_TokensL k)) (d1 sf_ref15_TokensL ih (o3 sf_ref15_TokensL k)) (by kernel_rfl))))
def t5 (sf_ref15_TokensL : ((Option (Nat × N2)) × (Unit)) → Option ((List (Option (Nat × N2))) × (Unit))) : T5 := fun (x5 : List (Option (Nat × N2))) => 
  (some (x5, ()))
theorem e5 (sf_ref15_TokensL : ((Option (Nat × N2)) × (Unit)) → Option ((List (Option (Nat × N2))) × (Unit))) (k : Nat) : u5 sf_ref15_TokensL k = t5 sf_ref15_TokensL := by kernel_rfl
theorem g5 (sf_ref15_TokensL : ((Option (Nat × N2)) × (Unit)) → Option ((List (Option (Nat × N2))) × (Unit))) (k : Nat) : l5 sf_ref15_TokensL k = u5 sf_ref15_TokensL k := funext fun _ => cut_u _ _ _
def p5 (sf_ref15_TokensL : ((Option (Nat × N2)) × (Unit)) → Option ((List (Option (Nat × N2))) × (Unit))) (k : Nat) : T5 := t5 sf_ref15_TokensL
theorem o5 (sf_ref15_TokensL : ((Option (Nat × N2)) × (Unit)) → Option ((List (Option (Nat × N2))) × (Unit))) (k : Nat) : l5 sf_ref15_TokensL k = p5 sf_ref15_TokensL k := (Eq.trans (b := u5 sf_ref15_TokensL k) (g5 sf_ref15_TokensL k) (Eq.trans (b := t5 sf_ref15_TokensL) (e5 sf_ref15_TokensL k) (by kernel_rfl)))
def t4 (sf_ref15_TokensL : ((Option (Nat × N2)) × (Unit)) → Option ((List (Option (Nat × N2))) × (Unit))) (f4 : T4) (f5 : T5) : T4 := fun (x0 : Option (Nat × N2)) (x5 : List (Option (Nat × N2))) (x6 : Int) => 
  (bindR x0 fun z6 => (iteB (decide (x6 < ((List.length (out2 z6.2).2.2.2.1 : Nat) : Int))) (bindR x0 fun z7 => (withinR x6 (List.length (out2 z7.2).2.2.2.1) fun q8 => (bindR (sf_ref15_TokensL ((List.getD (out2 z7.2).2.2.2.1 q8 none), ())) fun r9 => (mustR (room x5 r9.1) (f4 x0 (x5 ++ r9.1) (w64 (x6 + (1 : Int)))))))) (f5 x5)))
theorem e4 (sf_ref15_TokensL : ((Option (Nat × N2)) × (Unit)) → Option ((List (Option (Nat × N2))) × (Unit))) (k n4 : Nat) : u4 sf_ref15_TokensL k (n4 + 1) = t4 sf_ref15_TokensL (l4 sf_ref15_TokensL k n4) (l5 sf_ref15_TokensL k) := by kernel_rfl
theorem g4 (sf_ref15_TokensL : ((Option (Nat × N2)) × (Unit)) → Option ((List (Option (Nat × N2))) × (Unit))) (k n4 : Nat) : l4 sf_ref15_TokensL k (n4 + 1) = u4 sf_ref15_TokensL k (n4 + 1) := funext fun _ => funext fun _ => funext fun _ => cut_u _ _ _
theorem d4 (sf_ref15_TokensL : ((Option (Nat × N2)) × (Unit)) → Option ((List (Option (Nat × N2))) × (Unit))) {x4 y4 : T4} {x5 y5 : T5} (h4 : x4 = y4) (h5 : x5 = y5) : t4 sf_ref15_TokensL x4 x5 = t4 sf_ref15_TokensL y4 y5 := by subst h4; subst h5; rfl
def p4 (sf_ref15_TokensL : ((Option (Nat × N2)) × (Unit)) → Option ((List (Option (Nat × N2))) × (Unit))) (k : Nat) : Nat → T4
  | 0 => fun _ _ _ => none
  | n4 + 1 => t4 sf_ref15_TokensL (p4 sf_ref15_TokensL k n4) (p5 sf_ref15_TokensL k)
theorem o4 (sf_ref15_TokensL : ((Option (Nat × N2)) × (Unit)) → Option ((List (Option (Nat × N2))) × (Unit))) (k : Nat) : ∀ n4, l4 sf_ref15_TokensL k n4 = p4 sf_ref15_TokensL k n4 := by
  intro n4
  induction n4 with
  | zero => kernel_rfl
  | succ n4 ih => exact (Eq.trans (b := u4 sf_ref15_TokensL k (n4 + 1)) (g4 sf_ref15_TokensL k n4) (Eq.trans (b := t4 sf_ref15_TokensL (l4 sf_ref15_TokensL k n4) (l5 sf_ref15_TokensL k)) (e4 sf_ref15_TokensL k n4) (Eq.trans (b := t4 sf_ref15_TokensL (p4 sf_ref15_TokensL k n4) (p5 sf_ref15_TokensL k)) (d4 sf_ref15_TokensL ih (o5 sf_ref15_TokensL k)) (by kernel_rfl))))
def t2 (sf_ref15_TokensL : ((Option (Nat × N2)) × (Unit)) → Option ((List (Option (Nat × N2))) × (Unit))) (f4 : T4) : T2 := fun (x0 : Option (Nat × N2)) => 
  (f4 x0 ([] : List (Option (Nat × N2))) (0 : Int))
theorem e2 (sf_ref15_TokensL : ((Option (Nat × N2)) × (Unit)) → Option ((List (Option (Nat × N2))) × (Unit))) (k : Nat) : u2 sf_ref15_TokensL k = t2 sf_ref15_TokensL (l4 sf_ref15_TokensL k k) := by kernel_rfl
theorem g2 (sf_ref15_TokensL : ((Option (Nat × N2)) × (Unit)) → Option ((List (Option (Nat × N2))) × (Unit))) (k : Nat) : l2 sf_ref15_TokensL k = u2 sf_ref15_TokensL k := funext fun _ => cut_u _ _ _
theorem d2 (sf_ref15_TokensL : ((Option (Nat × N2)) × (Unit)) → Option ((List (Option (Nat × N2))) × (Unit))) {x4 y4 : T4} (h4 : x4 = y4) : t2 sf_ref15_TokensL x4 = t2 sf_ref15_TokensL y4 := by subst h4; rfl
def p2 (sf_ref15_TokensL : ((Option (Nat × N2)) × (Unit)) → Option ((List (Option (Nat × N2))) × (Unit))) (k : Nat) : T2 := t2 sf_ref15_TokensL (p4 sf_ref15_TokensL k k)
theorem o2 (sf_ref15_TokensL : ((Option (Nat × N2)) × (Unit)) → Option ((List (Option (Nat × N2))) × (Unit))) (k : Nat) : l2 sf_ref15_TokensL k = p2 sf_ref15_TokensL k := (Eq.trans (b := u2 sf_ref15_TokensL k) (g2 sf_ref15_TokensL k) (Eq.trans (b := t2 sf_ref15_TokensL (l4 sf_ref15_TokensL k k)) (e2 sf_ref15_TokensL k) (Eq.trans (b := t2 sf_ref15_TokensL (p4 sf_ref15_TokensL k k)) (d2 sf_ref15_TokensL (o4 sf_ref15_TokensL k k)) (by kernel_rfl))))
def t0 (sf_ref15_TokensL : ((Option (Nat × N2)) × (Unit)) → Option ((List (Option (Nat × N2))) × (Unit))) (f1 : T1) (f2 : T2) : T0 := fun (x0 : Option (Nat × N2)) => 
  (iteB (Option.isNone x0) (some (([] : List (Option (Nat × N2))), ())) (bindR x0 fun z1 => (iteB (decide ((out2 z1.2).2.1 = (-1 : Int))) (f1 x0 ([x0] : List (Option (Nat × N2))) (0 : Int)) (f2 x0))))
theorem e0 (sf_ref15_TokensL : ((Option (Nat × N2)) × (Unit)) → Option ((List (Option (Nat × N2))) × (Unit))) (k : Nat) : u0 sf_ref15_TokensL k = t0 sf_ref15_TokensL (l1 sf_ref15_TokensL k k) (l2 sf_ref15_TokensL k) := by kernel_rfl
theorem d0 (sf_ref15_TokensL : ((Option (Nat × N2)) × (Unit)) → Option ((List (Option (Nat × N2))) × (Unit))) {x1 y1 : T1} {x2 y2 : T2} (h1 : x1 = y1) (h2 : x2 = y2) : t0 sf_ref15_TokensL x1 x2 = t0 sf_ref15_TokensL y1 y2 := by subst h1; subst h2; rfl
def p0 (sf_ref15_TokensL : ((Option (Nat × N2)) × (Unit)) → Option ((List (Option (Nat × N2))) × (Unit))) (k : Nat) : T0 := t0 sf_ref15_TokensL (p1 sf_ref15_TokensL k k) (p2 sf_ref15_TokensL k)
theorem o0 (sf_ref15_TokensL : ((Option (Nat × N2)) × (Unit)) → Option ((List (Option (Nat × N2))) × (Unit))) (k : Nat) : u0 sf_ref15_TokensL k = p0 sf_ref15_TokensL k := (Eq.trans (b := t0 sf_ref15_TokensL (l1 sf_ref15_TokensL k k) (l2 sf_ref15_TokensL k)) (e0 sf_ref15_TokensL k) (Eq.trans (b := t0 sf_ref15_TokensL (p1 sf_ref15_TokensL k k) (p2 sf_ref15_TokensL k)) (d0 sf_ref15_TokensL (o1 sf_ref15_TokensL k k) (o2 sf_ref15_TokensL k)) (by kernel_rfl)))
end ref15_TokensL
def r_ref15_TokensL : Nat → ((Option (Nat × N2)) × (Unit)) → Option ((List (Option (Nat × N2))) × (Unit))
  | 0, _ => none
  | n + 1, a => ref15_TokensL.p0 (r_ref15_TokensL n) (fuel) a.1
theorem okr_ref15_TokensL : ∀ n, FnOk Try.prog (Fr_ref15_TokensL (r_ref15_TokensL n)) 24
  | 0 => fn_none (fun _ => rfl)
  | n + 1 => fn_of (F := Fr_ref15_TokensL (r_ref15_TokensL (n + 1))) (hn := ref15_TokensL.h) (E := ref15_TokensL.E (r_ref15_TokensL n)) cxOk (tysTL _ _ _) (fs_cons (okr_ref15_TokensL n) fs_nil) follows Try.func24 (by kernel_rfl) (fun a r h => ⟨fuel, Eq.trans (c := some r) (congrFun (ref15_TokensL.o0 (r_ref15_TokensL n) (fuel)) a.1) h⟩)
def s_ref15_TokensL (a : (Option (Nat × N2)) × (Unit)) : Option ((List (Option (Nat × N2))) × (Unit)) := r_ref15_TokensL (fuel) a
noncomputable def F_ref15_TokensL : FSpec cx.toNm := Fr_ref15_TokensL s_ref15_TokensL
theorem ok_ref15_TokensL : FnOk Try.prog F_ref15_TokensL 24 := fun w Z own vs a r h1 h2 h3 h4 => (okr_ref15_TokensL (fuel)) w Z own vs a r h1 h2 h3 h4
namespace law15_TreeSpans
noncomputable def E : Env cx := { tys := tysL, fs := fsOf [(7, F_law15_alive), (10, F_law15_GreatE), (13, F_law15_MadeL), (22, F_tree_SpanE), (23, F_ref15_AtL), (24, F_ref15_TokensL)] }
abbrev R := Option ((Bool) × (Unit))
abbrev C := Exit → ST cx → R
noncomputable def b : Code := bodyC Try.f5
noncomputable def h : Hint := { vs := [0, 1, 2, 3, 6, 7, 8, 9, 10, 11, 12, 13, 14], nil := [], cuts := [(5, ([2, 7, 30], []), ([2, 7], [])), (6, ([2, 7], []), ([2, 7], [])), (12, ([7, 8, 12, 13, 76], []), ([7, 8, 12, 13], [])), (13, ([7, 8, 12, 13], []), ([7, 8, 12, 13], [])), (14, ([7, 8, 12, 13, 14], []), ([7, 12], [])), (18, ([7, 12], []), ([7, 12], []))], ret := ([6], [3]), ords := [] }
noncomputable def K0 : C := fin (S := cx) E Try.f5.results.toList .bool .ro [] []
noncomputable def c0 : Code := subC b [1]
noncomputable def K1 (k : Nat) : C := outD h c0 K0
noncomputable def K2 (k : Nat) : C := seqC E h k c0 K0
noncomputable def c1 : Code := subC b [1, 1]
noncomputable def K3 (k : Nat) : C := outD h c1 (K1 k)
noncomputable def K4 (k : Nat) : C := seqC E h k c1 (K1 k)
noncomputable def c2 : Code := subC b [1, 0, 1]
noncomputable def K5 (k : Nat) : C := outD h c2 (K4 k)
noncomputable def K6 (k : Nat) : C := seqC E h k c2 (K4 k)
noncomputable def c3 : Code := subC b [1, 0, 1, 0, 1]
noncomputable def K7 (k : Nat) : C := outD h c3 (K5 k)
noncomputable def K8 (k : Nat) : C := seqC E h k c3 (K5 k)
noncomputable def c4 : Code := subC b [1, 1, 1]
noncomputable def K9 (k : Nat) : C := outD h c4 (K3 k)
noncomputable def K10 (k : Nat) : C := seqC E h k c4 (K3 k)
noncomputable def c5 : Code := subC b [1, 1, 1, 1]
noncomputable def K11 (k : Nat) : C := outD h c5 (K9 k)
noncomputable def K12 (k : Nat) : C := seqC E h k c5 (K9 k)
noncomputable def c6 : Code := subC b [1, 1, 1, 0, 1]
noncomputable def K13 (k : Nat) : C := outD h c6 (K12 k)
noncomputable def K14 (k : Nat) : C := seqC E h k c6 (K12 k)
noncomputable def c7 : Code := subC b [1, 1, 1, 0, 1, 0, 1]
noncomputable def K15 (k : Nat) : C := outD h c7 (K13 k)
noncomputable def K16 (k : Nat) : C := seqC E h k c7 (K13 k)
noncomputable def c8 : Code := subC b [1, 1, 1, 1, 1]
noncomputable def K17 (k : Nat) : C := outD h c8 (K11 k)
noncomputable def K18 (k : Nat) : C := seqC E h k c8 (K11 k)
noncomputable def c9 : Code := subC b [1, 1, 1, 1, 1, 1]
noncomputable def K19 (k : Nat) : C := outD h c9 (K17 k)
noncomputable def K20 (k : Nat) : C := seqC E h k c9 (K17 k)
noncomputable def c10 : Code := subC b [1, 1, 1, 1, 1, 1, 1]
noncomputable def K21 (k : Nat) : C := outD h c10 (K19 k)
noncomputable def K22 (k : Nat) : C := seqC E h k c10 (K19 k)
noncomputable def c11 : Code := subC b [1, 1, 1, 1, 1, 1, 0, 1]
noncomputable def K23 (k : Nat) : C := outD h c11 (K22 k)
noncomputable def K24 (k : Nat) : C := seqC E h k c11 (K22 k)
noncomputable def c12 : Code := subC b [1, 1, 1, 1, 1, 1, 0, 1, 0, 1]
noncomputable def K25 (k : Nat) : C := outD h c12 (K23 k)
noncomputable def K26 (k : Nat) : C := seqC E h k c12 (K23 k)
noncomputable def c13 : Code := subC b [1, 1, 1, 1, 1, 1, 1, 1]
noncomputable def K27 (k : Nat) : C := outD h c13 (K21 k)
noncomputable def K28 (k : Nat) : C := seqC E h k c13 (K21 k)
noncomputable def c14 : Code := subC b [1, 1, 1, 1, 1, 1, 1, 1, 1]
noncomputable def K29 (k : Nat) : C := outD h c14 (K27 k)
noncomputable def K30 (k : Nat) : C := seqC E h k c14 (K27 k)
noncomputable def c15 : Code := subC b [1, 1, 1, 1, 1, 1, 1, 1, 0, 1]
noncomputable def K31 (k : Nat) : C := outD h c15 (K30 k)
noncomputable def K32 (k : Nat) : C := seqC E h k c15 (K30 k)
noncomputable def c16 : Code := subC b [1, 1, 1, 1, 1, 1, 1, 1, 0, 1, 0, 1]
noncomputable def K33 (k : Nat) : C := outD h c16 (K31 k)
noncomputable def K34 (k : Nat) : C := seqC E h k c16 (K31 k)
noncomputable def c17 : Code := subC b [1, 1, 1, 1, 1, 1, 1, 1, 1, 1]
noncomputable def K35 (k : Nat) : C := outD h c17 (K29 k)
noncomputable def K36 (k : Nat) : C := seqC E h k c17 (K29 k)
noncomputable def c18 : Code := subC b [1, 1, 1, 1, 1, 1, 1, 1, 1, 0, 1]
noncomputable def K37 (k : Nat) : C := outD h c18 (K36 k)
noncomputable def K38 (k : Nat) : C := seqC E h k c18 (K36 k)
noncomputable def K39 (k : Nat) : C := blockK 0 (K37 k)
noncomputable def c19 : Code := subC b [1, 1, 1, 1, 1, 1, 1, 1, 1, 0, 1, 0, 0]
noncomputable def K40 (k n5 : Nat) : C := loopD E h k c19 (K39 k) n5
noncomputable def c20 : Code := subC b [1, 1, 1, 1, 1, 1, 1, 1, 1, 0, 1, 0, 0, 1]
noncomputable def K41 (k n5 : Nat) : C := outD h c20 (K40 k n5)
noncomputable def K42 (k n5 : Nat) : C := seqC E h k c20 (K40 k n5)
noncomputable def c21 : Code := subC b [1, 1, 1, 1, 1, 1, 1, 1, 1, 0, 1, 0, 0, 0, 1]
noncomputable def K43 (k n5 : Nat) : C := outD h c21 (K42 k n5)
noncomputable def K44 (k n5 : Nat) : C := seqC E h k c21 (K42 k n5)
noncomputable def c22 : Code := subC b [1, 1, 1, 1, 1, 1, 1, 1, 1, 0, 1, 0, 0, 1, 1]
noncomputable def K45 (k n5 : Nat) : C := outD h c22 (K41 k n5)
noncomputable def K46 (k n5 : Nat) : C := seqC E h k c22 (K41 k n5)
noncomputable def K47 (k n5 : Nat) : C := blockK 1 (K46 k n5)
noncomputable def c23 : Code := subC b [1, 1, 1, 1, 1, 1, 1, 1, 1, 0, 1, 0, 0, 1, 0, 0, 1]
noncomputable def K48 (k n5 : Nat) : C := outD h c23 (K47 k n5)
noncomputable def K49 (k n5 : Nat) : C := seqC E h k c23 (K47 k n5)
noncomputable def c24 : Code := subC b [1, 1, 1, 1, 1, 1, 1, 1, 1, 0, 1, 0, 0, 1, 0, 0, 1, 0, 1]
noncomputable def K50 (k n5 : Nat) : C := outD h c24 (K48 k n5)
noncomputable def K51 (k n5 : Nat) : C := seqC E h k c24 (K48 k n5)
noncomputable def c25 : Code := subC b [1, 1, 1, 1, 1, 1, 1, 1, 1, 1, 1]
noncomputable def K52 (k : Nat) : C := outD h c25 (K35 k)
noncomputable def K53 (k : Nat) : C := seqC E h k c25 (K35 k)
abbrev T6 := (Option (Nat × N2)) → (List (Option (Nat × N2))) → R
abbrev T5 := (Option (Nat × N2)) → Int → (List (Option (Nat × N2))) → (List (Option (Nat × N2))) → Int → R
abbrev T4 := (Option (Nat × N2)) → Int → (List (Option (Nat × N2))) → (List (Option (Nat × N2))) → R
abbrev T3 := (Option (Nat × N2)) → Int → (List (Option (Nat × N2))) → (List (Option (Nat × N2))) → Bool → R
abbrev T2 := (List (Int)) → (Option (Nat × N2)) → R
abbrev T1 := (List (Int)) → (Option (Nat × N2)) → Bool → R
abbrev T0 := D0 → (List (Int)) → (List (Int)) → R
abbrev s6 : (Option (Nat × N2)) → (List (Option (Nat × N2))) → ST cx := fun (x7 : Option (Nat × N2)) (x12 : List (Option (Nat × N2))) => ({ vars := [(7, .v (.lptr 2) .ro x7), (12, .v (.slice 35 (.lptr 2)) .ro x12)], scr := [], mems := [] } : ST cx)
noncomputable def u6 (k : Nat) : T6 := fun (x7 : Option (Nat × N2)) (x12 : List (Option (Nat × N2))) => uK (run E h k c17) (s6 x7 x12) (K35 k)
noncomputable abbrev l6 (k : Nat) : T6 := fun (x7 : Option (Nat × N2)) (x12 : List (Option (Nat × N2))) => cutK (run E h k c17) (s6 x7 x12) (K35 k)
abbrev s5 : (Option (Nat × N2)) → Int → (List (Option (Nat × N2))) → (List (Option (Nat × N2))) → Int → ST cx := fun (x7 : Option (Nat × N2)) (x8 : Int) (x12 x13 : List (Option (Nat × N2))) (x14 : Int) => ({ vars := [(7, .v (.lptr 2) .ro x7), (8, .v (.int .i64) .ro x8), (12, .v (.slice 35 (.lptr 2)) .ro x12), (13, .v (.slice 35 (.lptr 2)) .ro x13), (14, .v (.int .i64) .ro x14)], scr := [], mems := [] } : ST cx)
noncomputable def u5 (k n5 : Nat) : T5 := fun (x7 : Option (Nat × N2)) (x8 : Int) (x12 x13 : List (Option (Nat × N2))) (x14 : Int) => uK (loopL E h k c19 (K39 k) n5) (s5 x7 x8 x12 x13 x14) ()
noncomputable abbrev l5 (k n5 : Nat) : T5 := fun (x7 : Option (Nat × N2)) (x8 : Int) (x12 x13 : List (Option (Nat × N2))) (x14 : Int) => cutK (loopL E h k c19 (K39 k) n5) (s5 x7 x8 x12 x13 x14) ()
abbrev s4 : (Option (Nat × N2)) → Int → (List (Option (Nat × N2))) → (List (Option (Nat × N2))) → ST cx := fun (x7 : Option (Nat × N2)) (x8 : Int) (x12 x13 : List (Option (Nat × N2))) => ({ vars := [(7, .v (.lptr 2) .ro x7), (8, .v (.int .i64) .ro x8), (12, .v (.slice 35 (.lptr 2)) .ro x12), (13, .v (.slice 35 (.lptr 2)) .ro x13)], scr := [], mems := [] } : ST cx)
noncomputable def u4 (k : Nat) : T4 := fun (x7 : Option (Nat × N2)) (x8 : Int) (x12 x13 : List (Option (Nat × N2))) => uK (run E h k c14) (s4 x7 x8 x12 x13) (K29 k)
noncomputable abbrev l4 (k : Nat) : T4 := fun (x7 : Option (Nat × N2)) (x8 : Int) (x12 x13 : List (Option (Nat × N2))) => cutK (run E h k c14) (s4 x7 x8 x12 x13) (K29 k)
abbrev s3 : (Option (Nat × N2)) → Int → (List (Option (Nat × N2))) → (List (Option (Nat × N2))) → Bool → ST cx := fun (x7 : Option (Nat × N2)) (x8 : Int) (x12 x13 : List (Option (Nat × N2))) (x76 : Bool) => ({ vars := [(7, .v (.lptr 2) .ro x7), (8, .v (.int .i64) .ro x8), (12, .v (.slice 35 (.lptr 2)) .ro x12), (13, .v (.slice 35 (.lptr 2)) .ro x13), (76, .v .bool .ro x76)], scr := [], mems := [] } : ST cx)
noncomputable def u3 (k : Nat) : T3 := fun (x7 : Option (Nat × N2)) (x8 : Int) (x12 x13 : List (Option (Nat × N2))) (x76 : Bool) => uK (run E h k c15) (s3 x7 x8 x12 x13 x76) (K31 k)
noncomputable abbrev l3 (k : Nat) : T3 := fun (x7 : Option (Nat × N2)) (x8 : Int) (x12 x13 : List (Option (Nat × N2))) (x76 : Bool) => cutK (run E h k c15) (s3 x7 x8 x12 x13 x76) (K31 k)
abbrev s2 : (List (Int)) → (Option (Nat × N2)) → ST cx := fun (x2 : List (Int)) (x7 : Option (Nat × N2)) => ({ vars := [(2, .v (.slice 3 (.int .i64)) .ro x2), (7, .v (.lptr 2) .ro x7)], scr := [], mems := [] } : ST cx)
noncomputable def u2 (k : Nat) : T2 := fun (x2 : List (Int)) (x7 : Option (Nat × N2)) => uK (run E h k c5) (s2 x2 x7) (K11 k)
noncomputable abbrev l2 (k : Nat) : T2 := fun (x2 : List (Int)) (x7 : Option (Nat × N2)) => cutK (run E h k c5) (s2 x2 x7) (K11 k)
abbrev s1 : (List (Int)) → (Option (Nat × N2)) → Bool → ST cx := fun (x2 : List (Int)) (x7 : Option (Nat × N2)) (x30 : Bool) => ({ vars := [(2, .v (.slice 3 (.int .i64)) .ro x2), (7, .v (.lptr 2) .ro x7), (30, .v .bool .ro x30)], scr := [], mems := [] } : ST cx)
noncomputable def u1 (k : Nat) : T1 := fun (x2 : List (Int)) (x7 : Option (Nat × N2)) (x30 : Bool) => uK (run E h k c6) (s1 x2 x7 x30) (K13 k)
noncomputable abbrev l1 (k : Nat) : T1 := fun (x2 : List (Int)) (x7 : Option (Nat × N2)) (x30 : Bool) => cutK (run E h k c6) (s1 x2 x7 x30) (K13 k)
noncomputable def u0 (k : Nat) : T0 := fun (x0 : D0) (x1 x2 : List (Int)) => runOf (S := cx) E h k Try.f5 [.val ty0, .val (.slice 5 (.int .u8)), .val (.slice 3 (.int .i64))] .bool .ro (x0, x1, x2, ())
def t6 : T6 := fun (x7 : Option (Nat × N2)) (x12 : List (Option (Nat × N2))) => 
  (bindR x7 fun z10 => (some ((decide ((out2 z10.2).2.2.2.2.1 = ((List.length x12 : Nat) : Int))), ())))
theorem e6 (k : Nat) : u6 k = t6 := by kernel_rfl
theorem g6 (k : Nat) : l6 k = u6 k := funext fun _ => funext fun _ => cut_u _ _ _
def p6 (k : Nat) : T6 := t6
theorem o6 (k : Nat) : l6 k = p6 k := (Eq.trans (b := u6 k) (g6 k) (Eq.trans (b := t6) (e6 k) (by kernel_rfl)))
def t5 (f5 : T5) (f6 : T6) : T5 := fun (x7 : Option (Nat × N2)) (x8 : Int) (x12 x13 : List (Option (Nat × N2))) (x14 : Int) => 
  (iteB (decide (x14 < ((List.length x13 : Nat) : Int))) (withinR (w64 (x8 + x14)) (List.length x12) fun q8 => (withinR x14 (List.length x13) fun q9 => (iteB (!(lblE (List.getD x12 q8 none) (List.getD x13 q9 none))) (some (false, ())) (f5 x7 x8 x12 x13 (w64 (x14 + (1 : Int))))))) (f6 x7 x12))
theorem e5 (k n5 : Nat) : u5 k (n5 + 1) = t5 (l5 k n5) (l6 k) := by kernel_rfl
theorem g5 (k n5 : Nat) : l5 k (n5 + 1) = u5 k (n5 + 1) := funext fun _ => funext fun _ => funext fun _ => funext fun _ => funext fun _ => cut_u _ _ _
theorem d5 {x5 y5 : T5} {x6 y6 : T6} (h5 : x5 = y5) (h6 : x6 = y6) : t5 x5 x6 = t5 y5 y6 := by subst h5; subst h6; rfl
def p5 (k : Nat) : Nat → T5
  | 0 => fun _ _ _ _ _ => none
  | n5 + 1 => t5 (p5 k n5) (p6 k)
theorem o5 (k : Nat) : ∀ n5, l5 k n5 = p5 k n5 := by
  intro n5
  induction n5 with
  | zero => kernel_rfl
  | succ n5 ih => exact (Eq.trans (b := u5 k (n5 + 1)) (g5 k n5) (Eq.trans (b := t5 (l5 k n5) (l6 k)) (e5 k n5) (Eq.trans (b := t5 (p5 k n5) (p6 k)) (d5 ih (o6 k)) (by kernel_rfl))))
def t4 (f5 : T5) : T4 := fun (x7 : Option (Nat × N2)) (x8 : Int) (x12 x13 : List (Option (Nat × N2))) => 
  (f5 x7 x8 x12 x13 (0 : Int))
theorem e4 (k : Nat) : u4 k = t4 (l5 k k) := by kernel_rfl
theorem g4 (k : Nat) : l4 k = u4 k := funext fun _ => funext fun _ => funext fun _ => funext fun _ => cut_u _ _ _
theorem d4 {x5 y5 : T5} (h5 : x5 = y5) : t4 x5 = t4 y5 := by subst h5; rfl
def p4 (k : Nat) : T4 := t4 (p5 k k)
theorem o4 (k : Nat) : l4 k = p4 k := (Eq.trans (b := u4 k) (g4 k) (Eq.trans (b := t4 (l5 k k)) (e4 k) (Eq.trans (b := t4 (p5 k k)) (d4 (o5 k k)) (by kernel_rfl))))
def t3 (f4 : T4) : T3 := fun (x7 : Option (Nat × N2)) (x8 : Int) (x12 x13 : List (Option (Nat × N2))) (x76 : Bool) => 
  (iteB x76 (some (false, ())) (f4 x7 x8 x12 x13))
theorem e3 (k : Nat) : u3 k = t3 (l4 k) := by kernel_rfl
theorem g3 (k : Nat) : l3 k = u3 k := funext fun _ => funext fun _ => funext fun _ => funext fun _ => funext fun _ => cut_u _ _ _
theorem d3 {x4 y4 : T4} (h4 : x4 = y4) : t3 x4 = t3 y4 := by subst h4; rfl
def p3 (k : Nat) : T3 := t3 (p4 k)
theorem o3 (k : Nat) : l3 k = p3 k := (Eq.trans (b := u3 k) (g3 k) (Eq.trans (b := t3 (l4 k)) (e3 k) (Eq.trans (b := t3 (p4 k)) (d3 (o4 k)) (by kernel_rfl))))
def t2 (f3 : T3) : T2 := fun (x2 : List (Int)) (x7 : Option (Nat × N2)) => 
  (bindR (s_tree_SpanE (x7, (x2, ()))) fun r4 => (bindR (s_ref15_AtL (x7, (x2, ()))) fun r5 => (iteB (Option.isNone r5.1) (iteB (decide (r4.1.1 = (0 : Int))) (iteB (decide (r4.1.2.1 = (0 : Int))) (some ((decide (r4.1.2.2 = (7 : Int))), ())) (some (false, ()))) (some (false, ()))) (bindR (s_ref15_TokensL (x7, ())) fun r6 => (bindR (s_ref15_TokensL (r5.1, ())) fun r7 => (iteB (!decide (r4.1.2.2 = (0 : Int))) (f3 x7 r4.1.1 r6.1 r7.1 true) (iteB (decide (r4.1.1 < (0 : Int))) (f3 x7 r4.1.1 r6.1 r7.1 true) (iteB (!decide ((w64 (r4.1.2.1 - r4.1.1)) = ((List.length r7.1 : Nat) : Int))) (f3 x7 r4.1.1 r6.1 r7.1 true) (f3 x7 r4.1.1 r6.1 r7.1 (decide (((List.length r6.1 : Nat) : Int) < r4.1.2.1)))))))))))
theorem e2 (k : Nat) : u2 k = t2 (l3 k) := by kernel_rfl
theorem g2 (k : Nat) : l2 k = u2 k := funext fun _ => funext fun _ => cut_u _ _ _
theorem d2 {x3 y3 : T3} (h3 : x3 = y3) : t2 x3 = t2 y3 := by subst h3; rfl
def p2 (k : Nat) : T2 := t2 (p3 k)
theorem o2 (k : Nat) : l2 k = p2 k := (Eq.trans (b := u2 k) (g2 k) (Eq.trans (b := t2 (l3 k)) (e2 k) (Eq.trans (b := t2 (p3 k)) (d2 (o3 k)) (by kernel_rfl))))
def t1 (f2 : T2) : T1 := fun (x2 : List (Int)) (x7 : Option (Nat × N2)) (x30 : Bool) => 
  (iteB x30 (some (true, ())) (f2 x2 x7))
theorem e1 (k : Nat) : u1 k = t1 (l2 k) := by kernel_rfl
theorem g1 (k : Nat) : l1 k = u1 k := funext fun _ => funext fun _ => funext fun _ => cut_u _ _ _
theorem d1 {x2 y2 : T2} (h2 : x2 = y2) : t1 x2 = t1 y2 := by subst h2; rfl
def p1 (k : Nat) : T1 := t1 (p2 k)
theorem o1 (k : Nat) : l1 k = p1 k := (Eq.trans (b := u1 k) (g1 k) (Eq.trans (b := t1 (l2 k)) (e1 k) (Eq.trans (b := t1 (p2 k)) (d1 (o2 k)) (by kernel_rfl))))
def t0 (f1 : T1) : T0 := fun (x0 : D0) (x1 x2 : List (Int)) => 
  (bindR (s_law15_alive ()) fun r1 => (iteB (notB r1.1) (some (false, ())) (bindL (q_law15_MadeL (x0, (x1, ()))) fun r2 => (iteB (Option.isNone r2.1) (f1 x2 r2.1 true) (bindR (s_law15_GreatE (r2.1, ())) fun r3 => (iteB r3.1 (f1 x2 r2.1 true) (f1 x2 r2.1 (decide ((100 : Int) < ((List.length x2 : Nat) : Int))))))))))
theorem e0 (k : Nat) : u0 k = t0 (l1 k) := by kernel_rfl
theorem d0 {x1 y1 : T1} (h1 : x1 = y1) : t0 x1 = t0 y1 := by subst h1; rfl
def p0 (k : Nat) : T0 := t0 (p1 k)
theorem o0 (k : Nat) : u0 k = p0 k := (Eq.trans (b := t0 (l1 k)) (e0 k) (Eq.trans (b := t0 (p1 k)) (d0 (o1 k)) (by kernel_rfl)))
end law15_TreeSpans
def s_law15_TreeSpans (a : (D0) × ((List (Int)) × ((List (Int)) × (Unit)))) : Option ((Bool) × (Unit)) := law15_TreeSpans.p0 (fuel) a.1 a.2.1 a.2.2.1
noncomputable def F_law15_TreeSpans : FSpec cx.toNm := { ps := [.val ty0, .val (.slice 5 (.int .u8)), .val (.slice 3 (.int .i64))], nres := 1, rt := .bool, rm := .ro, f := s_law15_TreeSpans }
theorem w_law15_TreeSpans (a : (D0) × ((List (Int)) × ((List (Int)) × (Unit)))) : runOf (S := cx) law15_TreeSpans.E law15_TreeSpans.h (fuel) Try.f5 F_law15_TreeSpans.ps F_law15_TreeSpans.rt F_law15_TreeSpans.rm a = F_law15_TreeSpans.f a := Eq.trans (b := law15_TreeSpans.u0 (fuel) a.1 a.2.1 a.2.2.1) (by kernel_rfl) (Eq.trans (b := law15_TreeSpans.p0 (fuel) a.1 a.2.1 a.2.2.1) (congrFun (congrFun (congrFun (law15_TreeSpans.o0 (fuel)) a.1) a.2.1) a.2.2.1) (by kernel_rfl))
theorem ok_law15_TreeSpans : FnOk Try.prog F_law15_TreeSpans 5 := fn_of (F := F_law15_TreeSpans) (hn := law15_TreeSpans.h) (E := law15_TreeSpans.E) cxOk (tysTL _ _ _) (fs_cons ok_law15_alive (fs_cons ok_law15_GreatE (fs_cons ok_law15_MadeL (fs_cons ok_tree_SpanE (fs_cons ok_ref15_AtL (fs_cons ok_ref15_TokensL fs_nil)))))) follows Try.func5 (by kernel_rfl) (fun a r h => ⟨fuel, Eq.trans (w_law15_TreeSpans a) h⟩)
end
end Go.Proofs.Ytdnkjfmneppkoaa.Vm.Tr
