/- Data; what gives up; a byte in a string. -/
import Derived.Test.YtndffgpoljojaaaVm3
import Derived.Test.YtndffgpoljojaaaChecked
import Derived.KernelRfl
import Derived.Laws.StandIn
import Derived.Tactics
import Derived.Tactics2
import Derived.Defers
import Derived.Recover
import Derived.Laws.Pointers
namespace Go.Proofs.Ytndffgpoljojaaa.Vm.Rx
open Go Go.Proofs.Ytndffgpoljojaaa.Vm Go.Proofs
set_option linter.unusedVariables false
set_option maxRecDepth 100000
noncomputable section
inductive N0 where
  | mk (a0 : Int) (a1 : List (Int)) (a2 : List (N0)) : N0
def pk0 (b : (Int) × ((List (Int)) × (List (N0)))) : N0 := .mk b.1 b.2.1 b.2.2
def out0 : N0 → (Int) × ((List (Int)) × (List (N0)))
  | .mk a0 a1 a2 => (a0, (a1, a2))
inductive N1 where
  | mk (a0 : List UInt8) (a1 : Bool) : N1
def pk1 (b : (List UInt8) × (Bool)) : N1 := .mk b.1 b.2
def out1 : N1 → (List UInt8) × (Bool)
  | .mk a0 a1 => (a0, a1)
inductive N2 where
  | mk (a0 : List (Int)) (a1 : Int) (a2 : Bool) (a3 : Bool) : N2
def pk2 (b : (List (Int)) × ((Int) × ((Bool) × (Bool)))) : N2 := .mk b.1 b.2.1 b.2.2.1 b.2.2.2
def out2 : N2 → (List (Int)) × ((Int) × ((Bool) × (Bool)))
  | .mk a0 a1 a2 a3 => (a0, (a1, (a2, a3)))
inductive N3 where
  | mk (a0 : List UInt8) : N3
def pk3 (b : List UInt8) : N3 := .mk b
def out3 : N3 → List UInt8
  | .mk a0 => a0
noncomputable def cx : Cx := { N := fun n => match n with | 0 => N0 | 1 => N1 | 2 => N2 | 3 => N3 | _ + 4 => Unit, body := fun n => match n with | 0 => (.agg (.pair (.int .u8) (.pair (.agg (.arr 4 (.int .u64))) (.slice 28 (.named 0))))) | 1 => (.agg (.pair .str .bool)) | 2 => (.agg (.pair (.slice 3 (.int .i64)) (.pair (.int .i64) (.pair .bool .bool)))) | 3 => (.agg .str) | _ + 4 => .unit, nsz := fun n => match n with | 0 => 6 | 1 => 2 | 2 => 4 | 3 => 1 | _ + 4 => 0, out := fun n => match n with | 0 => out0 | 1 => out1 | 2 => out2 | 3 => out3 | _ + 4 => fun _ => (), pk := fun n => match n with | 0 => pk0 | 1 => pk1 | 2 => pk2 | 3 => pk3 | _ + 4 => fun _ => (), dflt := fun n => match n with | 0 => pk0 ((0 : Int), ((List.replicate 4 (0 : Int)), ([] : List (N0)))) | 1 => pk1 (([] : List UInt8), false) | 2 => pk2 (([] : List (Int)), ((0 : Int), (false, false))) | 3 => pk3 ([] : List UInt8) | _ + 4 => () }
theorem cxOk : cx.Ok := ⟨fun n => match n with | 0 => rfl | 1 => rfl | 2 => rfl | 3 => rfl | _ + 4 => rfl, fun n x => match n, x with | 0, _ => rfl | 1, _ => rfl | 2, _ => rfl | 3, _ => rfl | _ + 4, _ => rfl, fun n x => match n, x with | 0, .mk _ _ _ => rfl | 1, .mk _ _ => rfl | 2, .mk _ _ _ _ => rfl | 3, .mk _ => rfl | _ + 4, _ => rfl⟩
abbrev t0 : Ty := .pair .str .bool
abbrev t1 : Ty := .agg t0
abbrev t2 : Ty := .arr 4 (.int .u64)
abbrev t3 : Ty := .agg t2
abbrev t4 : Ty := .slice 28 (.named 0)
abbrev t5 : Ty := .pair t3 t4
abbrev t6 : Ty := .pair (.int .u8) t5
abbrev t7 : Ty := .agg t6
abbrev t8 : Ty := .agg .str
abbrev t9 : Ty := .pair t7 (.int .i64)
abbrev t10 : Ty := .slice 3 (.int .i64)
abbrev t11 : Ty := .pair .bool .bool
abbrev t12 : Ty := .pair (.int .i64) t11
abbrev t13 : Ty := .pair t10 t12
abbrev t14 : Ty := .agg t13
abbrev t15 : Ty := .slice 25 t3
abbrev t16 : Ty := .pair (.int .i64) (.int .i64)
abbrev t17 : Ty := .pair (.int .i64) t16
abbrev t18 : Ty := .agg t17
abbrev t19 : Ty := .slice 4 .bool
abbrev t20 : Ty := .slice 56 t19
abbrev t21 : Ty := .slice 55 t19
abbrev t22 : Ty := .slice 5 (.int .u8)
abbrev t23 : Ty := .box (.int .u8)
abbrev t24 : Ty := .pair t23 .unit
abbrev t25 : Ty := .pair t23 t24
abbrev t26 : Ty := .clo 76 t25
abbrev t27 : Ty := .clo 0 .unit
abbrev D0 : Type := List N0
abbrev D1 : Type := (List Int) × D0
abbrev D2 : Type := Int × D1
abbrev D3 : Type := List (List Int)
abbrev D4 : Type := (List UInt8) × Bool
abbrev D5 : Type := Bool × Bool
abbrev D6 : Type := Int × D5
abbrev D7 : Type := (List Int) × D6
abbrev D8 : Type := List Bool
abbrev D9 : Type := List D8
abbrev D10 : Type := Int × Int
abbrev D11 : Type := Int × D10
abbrev D12 : Type := D4 × Unit
abbrev D13 : Type := D2 × D12
abbrev D14 : Type := Bool × Unit
abbrev D15 : Type := (List UInt8) × Unit
abbrev D16 : Type := (List UInt8) × D15
abbrev D17 : Type := D2 × D15
abbrev D18 : Type := Bool × D12
abbrev D19 : Type := Int × Unit
abbrev D20 : Type := D4 × D19
abbrev D21 : Type := D2 × Unit
abbrev D22 : Type := D0 × Unit
abbrev D23 : Type := Int × D22
abbrev D24 : Type := D4 × D21
abbrev D25 : Type := Bool × D15
abbrev D26 : Type := D2 × Int
abbrev D27 : Type := D26 × Unit
abbrev D28 : Type := D2 × D19
abbrev D29 : Type := D3 × Unit
abbrev D30 : Type := Int × D12
abbrev D31 : Type := D10 × Unit
abbrev D32 : Type := D7 × Unit
abbrev D33 : Type := D2 × D32
abbrev D34 : Type := D9 × Unit
abbrev D35 : Type := D11 × Unit
abbrev D36 : Type := Int × D32
abbrev D37 : Type := D7 × D21
abbrev D38 : Type := (List Int) × D19
abbrev D39 : Type := D9 × D34
abbrev D41 : Type := D8 × Unit
abbrev D42 : Type := D8 × D41
abbrev D43 : Type := (List Int) × Unit
abbrev D44 : Type := (List UInt8) × D19
abbrev D45 : Type := Int × D19
abbrev D46 : Type := Unit × D43
abbrev D47 : Type := (List Int) × D43
abbrev D48 : Type := D45 × Unit
abbrev D49 : Type := Int × D45
abbrev m_0 : Mode := (.pr (.own .ro) .ro)
abbrev m_1 : Mode := (.own (.own .ro))
abbrev m_2 : Mode := (.pr .ro (.own .ro))
abbrev m_3 : Mode := (.pr .ro m_2)
def tys : List (Nat × Ty) := [(3, (.int .i64)), (4, .bool), (5, (.int .u8)), (9, .str), (23, (.int .u64)), (25, t3), (26, t4), (28, t7), (29, (.int .i64)), (38, t15), (44, (.ptr 1)), (46, t1), (49, (.ptr 2)), (50, t10), (52, t14), (55, t19), (56, t19), (58, t20), (60, t21), (62, (.ptr 3)), (64, t8), (76, t22), (78, t18), (80, t27), (81, (.int .u64))]
theorem tysT (l : List (Nat × FSpec cx.toNm)) (b : Bool) (p : Nat) : TysOk (S := cx) Try.prog { tys := tys, fs := fsOf l, wr := b, pt := p } := tysOk (by kernel_rfl)
theorem follows : Try.prog.follows .mixedOrders = true := by kernel_rfl
abbrev vI (x : Int) : AV cx := .v (.int .i64) .ro x
abbrev vB (x : Bool) : AV cx := .v .bool .ro x
abbrev vS (x : List UInt8) : AV cx := .v .str .ro x
abbrev vR (t : Ty) (x : cx.den t) : AV cx := .v t .ro x
abbrev vA (k : Nat) : AV cx := .addr (.mem k) []
end
end Go.Proofs.Ytndffgpoljojaaa.Vm.Rx
namespace Go.Proofs.Ytndffgpoljojaaa.Vm.Rx
open Go Go.Proofs.Ytndffgpoljojaaa.Vm Go.Proofs Go.RowKit
set_option linter.unusedVariables false
set_option maxRecDepth 100000
def s_need (a : Bool × Unit) : Option (Option (Unit × Unit)) := match a.1 with
  | true => some (some ((), ()))
  | false => some none
noncomputable def F_need : FSpec cx.toNm := { ps := [.val .bool], nres := 0, rt := .unit, rm := .ro, f := fun _ => none, p := some (42, s_need) }
theorem enters_at {f : Nat} {fn : Func} {c : Code} (hf : Try.prog.funcs[f]? = some fn) (hb : fn.body = some c) (hname : (fn.name == "runtime.NumGoroutine") = false) (vs : Array Value) (w : World) : (callFunc f vs).run Try.prog w = .ok (.enter f vs) w := by
  simp only [callFunc, Sem.run_bind, run_program, Result.andThen_ok, hf, hname, Bool.false_eq_true, if_false, hb, Option.isNone]
  rfl
theorem enters17 (vs : Array Value) (w : World) : (callFunc 17 vs).run Try.prog w = .ok (.enter 17 vs) w := enters_at (c := bodyC Try.f17) Try.func17 (by kernel_rfl) (by kernel_rfl) vs w
theorem left_same {own : Nat → Option Own} {w w' : World} (hown : ∀ b, own b ≠ none → b < w.heap.size) (hb : Below w.heap.size w w') : Left own own w w' :=
  ⟨hb.os, hb.tape, hb.output, hb.size, fun b h _ => hb.block b h, fun b h => ⟨Nat.lt_of_lt_of_le (hown b h) hb.size, .inr h⟩⟩
theorem need_yes (w : World) : Calls Try.prog 17 #[.bool true] w fun e w' => e = .returned (.tuple #[]) ∧ w' = w := by
  go_enter Try.func17, Try.ntmps17
  go_wp2
  go_end0
  exact ⟨rfl, rfl⟩
theorem need_no (w : World) : Calls Try.prog 17 #[.bool false] w fun e w' => e = .panicked (wrongC 42) ∧ w' = w := by
  go_enter Try.func17, Try.ntmps17
  go_wp2
  exact ⟨rfl, rfl, rfl⟩
theorem ok_need : FnOk Try.prog F_need 17 := .ofP rfl rfl fun w Z own vs x r hZ hown hA hG hx => by
  match vs, hA with
  | [v], hA =>
    obtain ⟨⟨cs, h1, h2⟩, _⟩ := hA
    have h2 := Cx.R_bool.1 h2
    have h1 : cs = [v] := h1
    rw [h1] at h2
    obtain ⟨x0, x1, rfl⟩ : ∃ (x0 : Bool) (x1 : Unit), (x0, x1) = x := ⟨x.1, x.2, rfl⟩
    cases (List.cons.inj h2).1
    cases x0 with
    | true =>
      have hx : some (some ((), ())) = some r := hx
      cases hx
      simp only
      unfold Enters
      rw [enters17]
      refine (need_yes w).mono ?_
      rintro e w' ⟨rfl, rfl⟩
      exact ⟨_, rfl, own, left_same hown (Below.refl _ _), trivial, trivial⟩
    | false =>
      have hx : (some none : Option (Option (Unit × Unit))) = some r := hx
      cases hx
      simp only
      unfold GivesUp
      rw [enters17]
      refine (need_no w).mono ?_
      rintro e w' ⟨rfl, rfl⟩
      exact ⟨rfl, ⟨rfl, rfl, rfl, Nat.le_refl _, fun _ _ _ => rfl, fun _ h => absurd rfl h⟩⟩
  | [], hA => exact hA.elim
  | _ :: _ :: _, hA => exact hA.2.elim
def findB (c : UInt8) : List UInt8 → Nat → Option Nat
  | [], _ => none
  | x :: l, i => match x == c with
    | true => some i
    | false => findB c l (i + 1)
def idxB (s : List UInt8) (c : Int) : Int := match findB c.toNat.toUInt8 s 0 with
  | some i => (i : Int)
  | none => -1
def s_IndexByteString (a : List UInt8 × (Int × Unit)) : Option (Int × Unit) := some (idxB a.1 a.2.1, ())
noncomputable def F_IndexByteString : FSpec cx.toNm := { ps := [.val .str, .val (.int .u8)], nres := 1, rt := .int .i64, rm := .ro, f := s_IndexByteString }
theorem findB_at (c : UInt8) : ∀ (l pre : List UInt8), findB c l pre.length = (List.range' pre.length l.length).find? fun i => (pre ++ l)[i]! == c
  | [], pre => rfl
  | x :: l, pre => by
    simp only [findB, List.length_cons, List.range'_succ, List.find?_cons]
    have : (pre ++ x :: l)[pre.length]! = x := by simp
    rw [this]
    cases x == c with
    | true => rfl
    | false =>
      have h := findB_at c l (pre ++ [x])
      simp only [List.length_append, List.length_cons, List.length_nil, List.append_assoc, List.cons_append, List.nil_append] at h
      simpa using h
theorem idxB_is (s : List UInt8) (c : Int) : firstIdx ⟨⟨s⟩⟩ c.toNat.toUInt8 = idxB s c := by
  unfold firstIdx idxB
  have h := findB_at c.toNat.toUInt8 s []
  simp only [List.length_nil, List.nil_append] at h
  have hg : (fun i : Nat => ((⟨⟨s⟩⟩ : ByteArray)[i]! == c.toNat.toUInt8)) = fun i : Nat => (s[i]! == c.toNat.toUInt8) := by
    funext i
    have : (⟨⟨s⟩⟩ : ByteArray)[i]! = s[i]! := by
      rw [getElem!_def, getElem!_def]
      by_cases hi : i < s.length
      · rw [ba_get s i hi]
        simp [List.getD, hi]
      · have h1 : (⟨⟨s⟩⟩ : ByteArray)[i]? = none := by
          rw [getElem?_eq_none_iff]
          exact hi
        rw [h1, List.getElem?_eq_none (by omega)]
    rw [this]
  rw [h, List.range_eq_range', hg]
  rfl
theorem ok_IndexByteString : FnOk Try.prog F_IndexByteString 79 := by
  intro w Z own vs x r hZ hown hA hG hx
  match vs, hA with
  | [v, u], hA =>
    obtain ⟨⟨cs, h1, h2⟩, ⟨ds, g1, g2⟩, _⟩ := hA
    have h2 := Cx.R_str.1 h2
    have g2 := Cx.R_int.1 g2
    have h1 : cs = [v] := h1
    have g1 : ds = [u] := g1
    rw [h1] at h2
    rw [g1] at g2
    obtain ⟨x0, x1, x2, rfl⟩ : ∃ (x0 : List UInt8) (x1 : Int) (x2 : Unit), (x0, x1, x2) = x := ⟨x.1, x.2.1, x.2.2, rfl⟩
    cases (List.cons.inj h2).1
    cases (List.cons.inj g2).1
    have hx : some (idxB x0 x1, ()) = some r := hx
    cases hx
    unfold Enters
    have : (callFunc 79 #[.string ⟨⟨x0⟩⟩, .int .u8 x1]).run Try.prog w = .ok (.value (.int .i64 (firstIdx ⟨⟨x0⟩⟩ x1.toNat.toUInt8))) w := by
      rw [run_callFunc_indexByte Try.func79 (by kernel_rfl) (by kernel_rfl) (by kernel_rfl) (by kernel_rfl), run_indexByte_string]
      rfl
    rw [this, idxB_is]
    exact ⟨own, left_same hown (Below.refl _ _), ⟨_, rfl, OW_ro.2 (Cx.R_int.2 rfl)⟩, trivial⟩
  | [], hA => exact hA.elim
  | [_], hA => exact hA.2.elim
  | _ :: _ :: _ :: _, hA => exact hA.2.2.elim
end Go.Proofs.Ytndffgpoljojaaa.Vm.Rx
