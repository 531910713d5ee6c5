/- Data, nodes with labels, and what puts texts together. -/
import Derived.Test.YtdnkjfmneppkoaaVm3
import Derived.Test.YtdnkjfmneppkoaaChecked
import Derived.KernelRfl
import Derived.Shelf.Strings.OnBuilder
import Derived.Test.YtdnkjfmneppkoaaProg
namespace Go.Proofs.Ytdnkjfmneppkoaa.Vm.Tr
open Go Go.Proofs.Ytdnkjfmneppkoaa.Vm Go.Proofs
set_option linter.unusedVariables false
set_option maxRecDepth 100000
noncomputable section
inductive N0 where
  | mk (a0 : Bool) (a1 : Int) (a2 : Int) (a3 : List UInt8) (a4 : List (N0)) (a5 : Int) (a6 : Int) : N0
def pk0 (b : (Bool) × ((Int) × ((Int) × ((List UInt8) × ((List (N0)) × ((Int) × (Int))))))) : N0 := .mk b.1 b.2.1 b.2.2.1 b.2.2.2.1 b.2.2.2.2.1 b.2.2.2.2.2.1 b.2.2.2.2.2.2
def out0 : N0 → (Bool) × ((Int) × ((Int) × ((List UInt8) × ((List (N0)) × ((Int) × (Int))))))
  | .mk a0 a1 a2 a3 a4 a5 a6 => (a0, (a1, (a2, (a3, (a4, (a5, a6))))))
inductive N1 where
  | mk (a0 : Int) (a1 : Int) (a2 : List UInt8) (a3 : List (Option N1)) (a4 : Int) (a5 : Int) : N1
def pk1 (b : (Int) × ((Int) × ((List UInt8) × ((List (Option N1)) × ((Int) × (Int)))))) : N1 := .mk b.1 b.2.1 b.2.2.1 b.2.2.2.1 b.2.2.2.2.1 b.2.2.2.2.2
def out1 : N1 → (Int) × ((Int) × ((List UInt8) × ((List (Option N1)) × ((Int) × (Int)))))
  | .mk a0 a1 a2 a3 a4 a5 => (a0, (a1, (a2, (a3, (a4, a5)))))
inductive N2 where
  | mk (a0 : Int) (a1 : Int) (a2 : List UInt8) (a3 : List (Option (Nat × N2))) (a4 : Int) (a5 : Int) : N2
def pk2 (b : (Int) × ((Int) × ((List UInt8) × ((List (Option (Nat × N2))) × ((Int) × (Int)))))) : N2 := .mk b.1 b.2.1 b.2.2.1 b.2.2.2.1 b.2.2.2.2.1 b.2.2.2.2.2
def out2 : N2 → (Int) × ((Int) × ((List UInt8) × ((List (Option (Nat × N2))) × ((Int) × (Int)))))
  | .mk a0 a1 a2 a3 a4 a5 => (a0, (a1, (a2, (a3, (a4, a5)))))
noncomputable def cx : Cx := { N := fun n => match n with | 0 => N0 | 1 => N1 | 2 => N2 | _ + 3 => Unit, body := fun n => match n with | 0 => (.agg (.pair .bool (.pair (.int .i64) (.pair (.int .i64) (.pair .str (.pair (.slice 51 (.named 0)) (.pair (.int .i64) (.int .i64)))))))) | 1 => (.agg (.pair (.int .i64) (.pair (.int .i64) (.pair .str (.pair (.slice 35 (.ptr 1)) (.pair (.int .i64) (.int .i64))))))) | 2 => (.agg (.pair (.int .i64) (.pair (.int .i64) (.pair .str (.pair (.slice 35 (.lptr 2)) (.pair (.int .i64) (.int .i64))))))) | _ + 3 => .unit, nsz := fun n => match n with | 0 => 7 | 1 => 6 | 2 => 6 | _ + 3 => 0, out := fun n => match n with | 0 => out0 | 1 => out1 | 2 => out2 | _ + 3 => fun _ => (), pk := fun n => match n with | 0 => pk0 | 1 => pk1 | 2 => pk2 | _ + 3 => fun _ => (), dflt := fun n => match n with | 0 => pk0 (false, ((0 : Int), ((0 : Int), (([] : List UInt8), (([] : List (N0)), ((0 : Int), (0 : Int))))))) | 1 => pk1 ((0 : Int), ((0 : Int), (([] : List UInt8), (([] : List (Option N1)), ((0 : Int), (0 : Int)))))) | 2 => pk2 ((0 : Int), ((0 : Int), (([] : List UInt8), (([] : List (Option (Nat × N2))), ((0 : Int), (0 : Int)))))) | _ + 3 => () }
theorem cxOk : cx.Ok := ⟨fun n => match n with | 0 => rfl | 1 => rfl | 2 => rfl | _ + 3 => rfl, fun n x => match n, x with | 0, _ => rfl | 1, _ => rfl | 2, _ => rfl | _ + 3, _ => rfl, fun n x => match n, x with | 0, .mk _ _ _ _ _ _ _ => rfl | 1, .mk _ _ _ _ _ _ => rfl | 2, .mk _ _ _ _ _ _ => rfl | _ + 3, _ => rfl⟩
abbrev ty0 : Ty := (.agg (.pair (.slice 9 .str) (.pair (.int .i64) (.pair (.int .i64) (.pair (.slice 41 (.agg (.pair (.int .i64) (.slice 3 (.int .i64))))) (.pair (.slice 3 (.int .i64)) (.pair (.slice 3 (.int .i64)) (.pair (.slice 24 (.slice 3 (.int .i64))) (.pair (.slice 24 (.slice 3 (.int .i64))) (.slice 24 (.slice 3 (.int .i64))))))))))))
abbrev D0 : Type := (List (List UInt8)) × ((Int) × ((Int) × ((List ((Int) × (List (Int)))) × ((List (Int)) × ((List (Int)) × ((List (List (Int))) × ((List (List (Int))) × (List (List (Int))))))))))
abbrev ty1 : Ty := (.agg (.pair (.int .i64) (.pair (.int .i64) (.pair .str (.pair (.slice 35 (.ptr 1)) (.pair (.int .i64) (.int .i64)))))))
abbrev D1 : Type := (Int) × ((Int) × ((List UInt8) × ((List (Option N1)) × ((Int) × (Int)))))
abbrev ty2 : Ty := (.agg (.pair .bool (.pair (.int .i64) (.pair (.int .i64) (.pair .str (.pair (.slice 51 (.named 0)) (.pair (.int .i64) (.int .i64))))))))
abbrev D2 : Type := (Bool) × ((Int) × ((Int) × ((List UInt8) × ((List (N0)) × ((Int) × (Int))))))
abbrev ty3 : Ty := (.agg (.pair (.int .i64) (.pair (.int .i64) (.pair .str (.pair (.slice 35 (.lptr 2)) (.pair (.int .i64) (.int .i64)))))))
noncomputable def tys : List (Nat × Ty) := [(3, (.int .i64)), (4, .bool), (5, (.int .u8)), (9, .str), (22, (.slice 9 .str)), (23, (.slice 41 (.agg (.pair (.int .i64) (.slice 3 (.int .i64)))))), (24, (.slice 3 (.int .i64))), (25, (.slice 24 (.slice 3 (.int .i64)))), (27, ty0), (28, (.slice 5 (.int .u8))), (29, (.slice 51 (.named 0))), (31, (.slice 35 (.ptr 1))), (34, (.clo 0 .unit)), (35, (.ptr 1)), (38, ty1), (41, (.agg (.pair (.int .i64) (.slice 3 (.int .i64))))), (44, (.int .i64)), (48, (.clo 0 .unit)), (51, ty2), (76, (.slice 4 .bool)), (78, (.slice 76 (.slice 4 .bool))), (85, (.clo 0 .unit)), (88, (.clo 0 .unit)), (95, (.clo 0 .unit)), (112, (.clo 0 .unit))]
theorem tysT (l : List (Nat × FSpec cx.toNm)) (b : Bool) (p : Nat) : TysOk (S := cx) Try.prog { tys := tys, fs := fsOf l, wr := b, pt := p } := tysOk (by kernel_rfl)
theorem follows : Try.prog.follows .mixedOrders = true := by kernel_rfl
noncomputable def tysL : List (Nat × Ty) := [(3, (.int .i64)), (4, .bool), (5, (.int .u8)), (9, .str), (22, (.slice 9 .str)), (23, (.slice 41 (.agg (.pair (.int .i64) (.slice 3 (.int .i64)))))), (24, (.slice 3 (.int .i64))), (25, (.slice 24 (.slice 3 (.int .i64)))), (27, ty0), (28, (.slice 5 (.int .u8))), (29, (.slice 51 (.named 0))), (31, (.slice 35 (.lptr 2))), (34, (.clo 0 .unit)), (35, (.lptr 2)), (38, ty3), (41, (.agg (.pair (.int .i64) (.slice 3 (.int .i64))))), (44, (.int .i64)), (48, (.clo 0 .unit)), (51, ty2), (76, (.slice 4 .bool)), (78, (.slice 76 (.slice 4 .bool))), (85, (.clo 0 .unit)), (88, (.clo 0 .unit)), (95, (.clo 0 .unit)), (112, (.clo 0 .unit))]
theorem tysTL (l : List (Nat × FSpec cx.toNm)) (b : Bool) (p : Nat) : TysOk (S := cx) Try.prog { tys := tysL, fs := fsOf l, wr := b, pt := p } := tysOk (by kernel_rfl)
end
end Go.Proofs.Ytdnkjfmneppkoaa.Vm.Tr
namespace Go.Proofs
open Go.Shelf
def Try.lays156_ren : Go.Shelf.Ren := ⟨fun | 156 => 48 | 165 => 70 | 166 => 71 | 169 => 72 | 240 => 87 | 241 => 88 | 276 => 94 | 277 => 95 | n => n, fun | 31 => 22 | 9 => 9 | 3 => 3 | 4 => 4 | 0 => 0 | 20 => 20 | 72 => 98 | 76 => 102 | 70 => 96 | 37 => 28 | 75 => 101 | 127 => 114 | 164 => 118 | 5 => 5 | 80 => 104 | n => n, fun | n => n⟩
theorem Try.lays156 : Go.Proofs.Lays.n156 Try.prog Try.lays156_ren := {
  mixed := by kernel_rfl
  f156 := Try.func48.trans (congrArg some (by kernel_rfl))
  f165 := Try.func70.trans (congrArg some (by kernel_rfl))
  f166 := Try.func71.trans (congrArg some (by kernel_rfl))
  f169 := Try.func72.trans (congrArg some (by kernel_rfl))
  f240 := Try.func87.trans (congrArg some (by kernel_rfl))
  f241 := Try.func88.trans (congrArg some (by kernel_rfl))
  f276 := Try.func94.trans (congrArg some (by kernel_rfl))
  f277 := Try.func95.trans (congrArg some (by kernel_rfl))
  t0 := Try.underlying0
  a0 := Try.isAgg0
  z0 := Try.sizeOf0
  v0 := Try.zeroValue0
  t3 := Try.underlying3
  a3 := Try.isAgg3
  z3 := Try.sizeOf3
  v3 := Try.zeroValue3
  t4 := Try.underlying4
  a4 := Try.isAgg4
  z4 := Try.sizeOf4
  v4 := Try.zeroValue4
  t9 := Try.underlying9
  a9 := Try.isAgg9
  z9 := Try.sizeOf9
  v9 := Try.zeroValue9
  t20 := Try.underlying20
  a20 := Try.isAgg20
  z20 := Try.sizeOf20
  v20 := Try.zeroValue20
  t31 := Try.underlying22
  a31 := Try.isAgg22
  z31 := Try.sizeOf22
  v31 := Try.zeroValue22
  t37 := Try.underlying28
  a37 := Try.isAgg28
  z37 := Try.sizeOf28
  v37 := Try.zeroValue28
  t70 := Try.underlying96
  a70 := Try.isAgg96
  z70 := Try.sizeOf96
  v70 := Try.zeroValue96
  t72 := Try.underlying98
  a72 := Try.isAgg98
  z72 := Try.sizeOf98
  v72 := Try.zeroValue98
  t75 := Try.underlying101
  a75 := Try.isAgg101
  z75 := Try.sizeOf101
  v75 := Try.zeroValue101
  t76 := Try.underlying102
  a76 := Try.isAgg102
  z76 := Try.sizeOf102
  v76 := Try.zeroValue102
  t127 := Try.underlying114
  a127 := Try.isAgg114
  z127 := Try.sizeOf114
  v127 := Try.zeroValue114
  t164 := Try.underlying118
  a164 := Try.isAgg118
  z164 := Try.sizeOf118
  v164 := Try.zeroValue118 }
theorem Try.Builder_Extra_156 : Builder.Extra Try.prog Try.lays156_ren := {
  sizeBuilder := by kernel_rfl
  liesBuilder := by kernel_rfl
  t5 := Try.underlying5
  a5 := Try.isAgg5
  z5 := Try.sizeOf5
  v5 := Try.zeroValue5
  infoByte := by kernel_rfl
  cellsByte := by kernel_rfl
  sizeByte := by kernel_rfl
  neB5 := by decide }
open Go.RowKit in
theorem Try.strings_Join (bk o c : Nat) (xs : List ByteArray) (sep : ByteArray) (w : World)
    (hcells : ∀ (j : Nat) x, xs[j]? = some x → w.cell? ⟨bk, o + j, none⟩ = some (.string x))
    (hbk : bk < w.heap.size) (hN : xs.length ≤ 140737488355328) (hcap : xs.length ≤ c)
    (hlen : (Lib.join (xs.map (·.data.toList)) sep.data.toList).length ≤ 140737488355328) :
    Calls Try.prog 48 #[.slice (some ⟨bk, o, none⟩) xs.length c, .string sep] w fun e w' => e = .returned (.string ⟨(Lib.join (xs.map (·.data.toList)) sep.data.toList).toArray⟩) ∧ Below w.heap.size w w' :=
  Any.strings_Join Try.lays156 Try.Builder_Extra_156 bk o c xs sep w hcells hbk hN hcap hlen
theorem Try.strings_Join_none (a : Option Addr) (c : Nat) (sep : ByteArray) (w : World) :
    Calls Try.prog 48 #[.slice a 0 c, .string sep] w fun e w' => e = .returned (.string ⟨#[]⟩) ∧ w' = w := Any.strings_Join_none Try.lays156 Try.Builder_Extra_156 a c sep w
end Go.Proofs
namespace Go.Proofs.Ytdnkjfmneppkoaa.Vm.Tr
open Go Go.Proofs.Ytdnkjfmneppkoaa.Vm Go.Proofs Go.RowKit
set_option linter.unusedVariables false
def s_Join (a : List (List UInt8) × (List UInt8 × Unit)) : Option (List UInt8 × Unit) :=
  mustR (decide (a.1.length ≤ 1000000 ∧ (Lib.join a.1 a.2.1).length ≤ 1000000000)) (some (Lib.join a.1 a.2.1, ()))
noncomputable def F_Join : FSpec cx.toNm := { ps := [.val (.slice 9 .str), .val .str], nres := 1, rt := .str, rm := .ro, f := s_Join }
theorem enters_at {f : Nat} {fn : Func} {c : Code} (hf : Try.prog.funcs[f]? = some fn) (hb : fn.body = some c) (hname : (fn.name == "runtime.NumGoroutine") = false) (vs : Array Value) (w : World) : (callFunc f vs).run Try.prog w = .ok (.enter f vs) w := by
  simp only [callFunc, Sem.run_bind, run_program, Result.andThen_ok, hf, hname, Bool.false_eq_true, if_false, hb, Option.isNone]
  rfl
set_option maxRecDepth 100000 in
theorem enters48 (vs : Array Value) (w : World) : (callFunc 48 vs).run Try.prog w = .ok (.enter 48 vs) w := enters_at (c := bodyC Try.f48) Try.func48 (by kernel_rfl) (by kernel_rfl) vs w
theorem left_same {own : Nat → Option Own} {w w' : World} (hown : ∀ b, own b ≠ none → b < w.heap.size) (hb : Below w.heap.size w w') : Left own own w w' :=
  ⟨hb.os, hb.tape, hb.output, hb.size, fun b h _ => hb.block b h, fun b h => ⟨Nat.lt_of_lt_of_le (hown b h) hb.size, .inr h⟩⟩
theorem nth_get {α : Type} {l : List α} {i : Nat} {y : α} (h : l[i]? = some y) : nth l i = some y := by
  simpa [nth] using h
theorem cells_one {w : World} {b o : Nat} {v : Value} (h : cellsAt w b o 1 = some [v]) : w.cell? ⟨b, o, none⟩ = some v ∧ b < w.heap.size := by
  unfold cellsAt at h
  split at h
  · rename_i c e fr hb
    split at h
    · rename_i hs
      have h := Option.some.inj h
      have hlt : b < w.heap.size := by
        rcases Nat.lt_or_ge b w.heap.size with h' | h'
        · exact h'
        · simp [Array.getElem?_eq_none h'] at hb
      refine ⟨?_, hlt⟩
      simp only [World.cell?, hb]
      rw [← Array.getElem?_toList]
      have := congrArg (fun l => l[0]?) h
      simpa [List.getElem?_take, List.getElem?_drop] using this
    · cases h
  · cases h
set_option maxRecDepth 100000 in
theorem ok_Join : FnOk Try.prog F_Join 48 := by
  intro w Z own vs x r hZ hown hA _ hx
  match vs, hA with
  | [v, u], hA =>
    obtain ⟨⟨cs, h1, h2⟩, ⟨ds, g1, g2⟩, _⟩ := hA
    have g2 := Cx.R_str.1 g2
    have h1 : cs = [v] := h1
    have g1 : ds = [u] := g1
    rw [g1] at g2
    obtain ⟨x0, x1, x2, rfl⟩ : ∃ (x0 : List (List UInt8)) (x1 : List UInt8) (x2 : Unit), (x0, x1, x2) = x := ⟨x.1, x.2.1, x.2.2, rfl⟩
    cases (List.cons.inj g2).1
    obtain ⟨a, c, e1, e2, e3⟩ := Cx.R_slice.1 h2
    rw [h1] at e1
    cases (List.cons.inj e1).1
    have hx : mustR (decide (x0.length ≤ 1000000 ∧ (Lib.join x0 x1).length ≤ 1000000000)) (some (Lib.join x0 x1, ())) = some r := hx
    cases hd : decide (x0.length ≤ 1000000 ∧ (Lib.join x0 x1).length ≤ 1000000000) with
    | false => rw [hd] at hx; cases hx
    | true =>
      rw [hd] at hx
      cases hx
      obtain ⟨d1, d2⟩ := of_decide_eq_true hd
      unfold Enters
      rw [enters48]
      have hmap : (x0.map fun l => ByteArray.mk (Array.mk l)).map (·.data.toList) = x0 := by
        rw [List.map_map]; simp [Function.comp_def]
      cases hx0 : x0 with
      | nil =>
        subst hx0
        refine (Try.strings_Join_none a c ⟨⟨x1⟩⟩ w).mono ?_
        rintro e w' ⟨rfl, rfl⟩
        exact ⟨_, rfl, own, left_same hown (Below.refl _ _), ⟨_, rfl, OW_ro.2 (Cx.R_str.2 rfl)⟩, trivial⟩
      | cons y l =>
        have h0 : x0[0]? = some y := by rw [hx0]; rfl
        obtain ⟨b, off, cs', f1, f2, f3, f4⟩ := e3 0 y (nth_get h0)
        subst f1
        have hb := (hZ b f2).1
        have hcells : ∀ (j : Nat) z, (x0.map fun l => ByteArray.mk (Array.mk l))[j]? = some z → w.cell? ⟨b, off + j, none⟩ = some (.string z) := by
          intro j z hz
          rw [List.getElem?_map] at hz
          obtain ⟨y', hy', rfl⟩ := Option.map_eq_some_iff.1 hz
          obtain ⟨b', off', cs'', k1, _, k3, k4⟩ := e3 j y' (nth_get hy')
          cases k1
          have k4 := Cx.R_str.1 k4
          rw [k4] at k3
          have hs : cx.size .str = 1 := rfl
          rw [hs, Nat.mul_one] at k3
          exact (cells_one k3).1
        have := Try.strings_Join b off c (x0.map fun l => ByteArray.mk (Array.mk l)) ⟨⟨x1⟩⟩ w hcells hb (by rw [List.length_map]; omega) (by rw [List.length_map]; exact e2) (by rw [hmap]; show (Lib.join x0 x1).length ≤ _; omega)
        rw [List.length_map, hmap] at this
        rw [← hx0]
        refine this.mono ?_
        rintro e w' ⟨rfl, hw⟩
        exact ⟨_, rfl, own, left_same hown hw, ⟨_, rfl, OW_ro.2 (Cx.R_str.2 rfl)⟩, trivial⟩
  | [], hA => exact hA.elim
  | [_], hA => exact hA.2.elim
  | _ :: _ :: _ :: _, hA => exact hA.2.2.elim
end Go.Proofs.Ytdnkjfmneppkoaa.Vm.Tr
namespace Go.Proofs.Ytdnkjfmneppkoaa.Vm.Tr
open Go Go.Proofs.Ytdnkjfmneppkoaa.Vm Go.Proofs
set_option linter.unusedVariables false
set_option maxRecDepth 100000
noncomputable section
abbrev LN := Option (Nat × N2)
mutual
def erN : N2 → N1
  | .mk s r t l tk st => .mk s r t (erL l) tk st
def erL : List (Option (Nat × N2)) → List (Option N1)
  | [] => []
  | k :: l => erO k :: erL l
def erO : Option (Nat × N2) → Option N1
  | none => none
  | some p => some (erP p)
def erP : Nat × N2 → N1
  | (_, n) => erN n
end
theorem erL_map : ∀ l, erL l = l.map erO
  | [] => by simp only [erL, List.map_nil]
  | k :: l => by simp only [erL, List.map_cons, erL_map l]
theorem erO_some (p : Nat × N2) : erO (some p) = some (erN p.2) := by
  obtain ⟨b, n⟩ := p; simp only [erO, erP]
theorem erO_none : erO none = none := by simp only [erO]
theorem erN_out (y : N2) : out1 (erN y) = ((out2 y).1, ((out2 y).2.1, ((out2 y).2.2.1, (erL (out2 y).2.2.2.1, ((out2 y).2.2.2.2.1, (out2 y).2.2.2.2.2))))) := by
  cases y; simp only [erN]; rfl
theorem choose_list {α β : Type} (f : β → α) (P : Nat → β → Prop) : ∀ (l : List α), (∀ i y, nth l i = some y → ∃ y', f y' = y ∧ P i y') → ∃ l' : List β, l'.map f = l ∧ ∀ i y', nth l' i = some y' → P i y' := by
  intro l
  induction l generalizing P with
  | nil => exact fun _ => ⟨[], rfl, fun i y' h => by simp [nth] at h⟩
  | cons a l ih =>
    intro h
    obtain ⟨y, hy, hP⟩ := h 0 a rfl
    obtain ⟨l', e, hl⟩ := ih (fun i => P (i + 1)) (fun i z hz => h (i + 1) z (by simpa [nth] using hz))
    refine ⟨y :: l', by rw [List.map_cons, hy, e], fun i y' hi => ?_⟩
    cases i with
    | zero => simp [nth] at hi; rw [← hi]; exact hP
    | succ i => exact hl i y' (by simpa [nth] using hi)
theorem lab_RN {w : World} {Z : Nat → Prop} : ∀ d (cs : List Value) (y : N1), cx.RN w Z d 1 cs y → ∃ y' : N2, erN y' = y ∧ cx.RN w Z d 2 cs y'
  | 0, _, _, h => h.elim
  | d + 1, cs, .mk s r t l tk st, h => by
    obtain ⟨c1, c2, e1, l1, h1, c3, c4, e2, l2, h2, c5, c6, e3, l3, h3, c7, c8, e4, l4, ⟨ad, c, e5, hlc, hel⟩, h5⟩ := h
    obtain ⟨l', hl', hP⟩ := choose_list erO (fun i (y' : Option (Nat × N2)) => ∃ b off cs', ad = some ⟨b, off, none⟩ ∧ Z b ∧ cellsAt w b (off + i * cx.size (.lptr 2)) (cx.size (.lptr 2)) = some cs' ∧ cx.R0 (cx.RN w Z d) w Z (.lptr 2) cs' y') l (fun i y hy => by
      obtain ⟨b, off, cs', f1, f2, f3, f4⟩ := hel i y hy
      rcases f4 with ⟨g1, rfl⟩ | ⟨b', y', cs'', g1, rfl, g3, g4, g5, g6⟩
      · exact ⟨none, erO_none, b, off, cs', f1, f2, f3, .inl ⟨g1, rfl⟩⟩
      · obtain ⟨z, hz, hR⟩ := lab_RN d cs'' y' g5
        exact ⟨some (b', z), by rw [erO_some]; exact congrArg some hz, b, off, cs', f1, f2, f3, .inr ⟨b', z, cs'', g1, rfl, g3, g4, hR, g6⟩⟩)
    have hll : l'.length = l.length := by rw [← hl', List.length_map]
    refine ⟨.mk s r t l' tk st, by simp only [erN]; rw [erL_map, hl'], ?_⟩
    refine ⟨c1, c2, e1, l1, h1, c3, c4, e2, l2, h2, c5, c6, e3, l3, h3, c7, c8, e4, l4, ⟨ad, c, ?_, ?_, hP⟩, h5⟩
    · have e5 : c7 = [.slice ad l.length c] := e5
      rw [e5, ← hll]; rfl
    · exact Nat.le_trans (Nat.le_of_eq hll) hlc
theorem lab_R {w : World} {Z : Nat → Prop} {cs : List Value} {x : Option N1} (h : cx.R w Z (.ptr 1) cs x) : ∃ y : LN, erO y = x ∧ cx.R w Z (.lptr 2) cs y := by
  obtain ⟨d, h⟩ := h
  rcases h with ⟨g1, rfl⟩ | ⟨b', y', cs'', g1, rfl, g3, g4, g5, g6⟩
  · exact ⟨none, erO_none, 0, .inl ⟨g1, rfl⟩⟩
  · obtain ⟨z, hz, hR⟩ := lab_RN d cs'' y' g5
    exact ⟨some (b', z), by rw [erO_some]; exact congrArg some hz, d, .inr ⟨b', z, cs'', g1, rfl, g3, g4, hR, g6⟩⟩
theorem nth_map {α β : Type} {f : α → β} {l : List α} {i : Nat} {y : β} (h : nth (l.map f) i = some y) : ∃ x, nth l i = some x ∧ f x = y := by
  unfold nth at h ⊢
  rw [List.getElem?_map] at h
  obtain ⟨x, h1, h2⟩ := Option.map_eq_some_iff.1 h
  exact ⟨x, h1, h2⟩
theorem er_RN {w : World} {Z : Nat → Prop} : ∀ d (cs : List Value) (y : N2), cx.RN w Z d 2 cs y → cx.RN w Z d 1 cs (erN y)
  | 0, _, _, h => h.elim
  | d + 1, cs, .mk s r t l tk st, h => by
    obtain ⟨c1, c2, e1, l1, h1, c3, c4, e2, l2, h2, c5, c6, e3, l3, h3, c7, c8, e4, l4, ⟨ad, c, e5, hlc, hel⟩, h5⟩ := h
    have hll : (erL l).length = l.length := by rw [erL_map, List.length_map]
    have e0 : erN (.mk s r t l tk st) = .mk s r t (erL l) tk st := by simp only [erN]
    rw [e0]
    refine ⟨c1, c2, e1, l1, h1, c3, c4, e2, l2, h2, c5, c6, e3, l3, h3, c7, c8, e4, l4, ⟨ad, c, ?_, ?_, ?_⟩, h5⟩
    · have e5 : c7 = [.slice ad l.length c] := e5
      rw [e5, ← hll]; rfl
    · exact Nat.le_trans (Nat.le_of_eq hll) hlc
    · intro i y hy
      have hy : nth (erL l) i = some y := hy
      rw [erL_map] at hy
      obtain ⟨z, hz, rfl⟩ := nth_map hy
      obtain ⟨b, off, cs', f1, f2, f3, f4⟩ := hel i z hz
      refine ⟨b, off, cs', f1, f2, f3, ?_⟩
      rcases f4 with ⟨g1, rfl⟩ | ⟨b', y', cs'', g1, rfl, g3, g4, g5, g6⟩
      · exact .inl ⟨g1, erO_none⟩
      · exact .inr ⟨b', erN y', cs'', g1, erO_some _, g3, g4, er_RN d cs'' y' g5, g6⟩
theorem er_R {w : World} {Z : Nat → Prop} {cs : List Value} {x : LN} (h : cx.R w Z (.lptr 2) cs x) : cx.R w Z (.ptr 1) cs (erO x) := by
  obtain ⟨d, h⟩ := h
  rcases h with ⟨g1, rfl⟩ | ⟨b', y', cs'', g1, rfl, g3, g4, g5, g6⟩
  · exact ⟨0, .inl ⟨g1, erO_none⟩⟩
  · exact ⟨d, .inr ⟨b', erN y', cs'', g1, erO_some _, g3, g4, er_RN d cs'' y' g5, g6⟩⟩
theorem lab_res {w : World} {Z : Nat → Prop} {own : Nat → Option Own} {v : Value} {x : Option N1} (h : Res1 cx w Z own (.ptr 1) .ro v x) : ∃ y : LN, erO y = x ∧ Res1 cx w Z own (.lptr 2) .ro v y := by
  obtain ⟨cs, h1, h2⟩ := h
  obtain ⟨y, hy, h3⟩ := lab_R (OW_ro.1 h2)
  exact ⟨y, hy, cs, h1, OW_ro.2 h3⟩
end
end Go.Proofs.Ytdnkjfmneppkoaa.Vm.Tr
