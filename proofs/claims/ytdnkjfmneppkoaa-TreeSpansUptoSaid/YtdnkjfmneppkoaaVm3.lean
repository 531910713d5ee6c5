/- A reader of the model s code over plain data, and that it is right of the machine (3). -/
import Derived.Test.YtdnkjfmneppkoaaVm2
import Derived.Orders
import Derived.OrdersHeld
import Derived.LoopN
import Derived.WalkKit
import Derived.ProofKit
import Derived.OpenShut
import Derived.ShutString
import Derived.ChangeOld
import Derived.Below
import Derived.SizedLaws
namespace Go.Proofs.Ytdnkjfmneppkoaa.Vm
open Go Go.RowKit
set_option linter.unusedVariables false
section
variable {S : Cx} {α : Type}
variable {g : Gl S} {own : Nat → Option Own} {st : ST S} {a : Act} {w : World}
def reads (E : Env S) (o : Oper) : Bool :=
  match o.op with
  | .convert _ dst _ => !isRow (E.tys.lookup dst)
  | .move _ | .assign _ | .pick .. | .build .. | .load .. | .nilCheck _ | .binOp .. | .unOp .. | .fieldAddr .. | .field .. | .indexAddr .. | .index .. | .slice .. | .extract .. | .makeFunc .. | .lookup .. => true
  | .call c => match c.callee with
    | .builtin .len | .builtin .min | .builtin .max => true
    | _ => false
  | _ => false
theorem op_rd {o : Oper} {hn : Hint} {κ π : ST S → Option α} {r : α} (ok : S.Ok) (T : TysOk g.P g.E) (h : Rel g own st a w) (hd : ∀ d, o.dst = some d → d < a.tmps.size)
    (hr : reads g.E o = true) (hκ : opK π g.E hn o st κ = some r) : Rd g o a w κ r := by
  cases ho : o.op with
  | move x => exact rd_move h hd ho hκ
  | assign x => exact rd_assign ok h hd ho hκ
  | pick c x y => exact rd_pick ok h hd ho hκ
  | build e ps => exact rd_build ok T h hd ho hκ
  | load e x => exact rd_load ok T h hd ho hκ
  | nilCheck x => exact rd_nilCheck ok h hd ho hκ
  | binOp op xt x y yt => exact rd_bin ok T h hd ho hκ
  | unOp op xt x => exact rd_un ok h hd ho hκ
  | convert s d x => exact rd_convert ok T h hd ho (by unfold reads at hr; rw [ho] at hr; simpa using hr) hκ
  | fieldAddr e x f => exact rd_fieldAddr ok T h hd ho hκ
  | field e x f => exact rd_field ok T h hd ho hκ
  | indexAddr e x i => exact rd_indexAddr ok T h hd ho hκ
  | index e x i => exact rd_index ok T h hd ho hκ
  | slice e x lo hi mx =>
    cases mx with
    | none => exact rd_slice ok T h hd ho hκ
    | some m => simp only [opK, ho] at hκ; cases hκ
  | extract x i => exact rd_extract h hd ho hκ
  | makeFunc fn first cap => exact rd_makeFunc ok h hd ho hκ
  | lookup t x i two => exact rd_lookup ok T h hd ho hκ
  | call c =>
    unfold reads at hr
    rw [ho] at hr
    simp only at hr
    split at hr
    · rename_i hc; exact rd_len ok T h hd ho hc hκ
    · rename_i hc; exact rd_min ok h hd ho hc hκ
    · rename_i hc; exact rd_max ok h hd ho hc hκ
    · cases hr
  | _ => unfold reads at hr; rw [ho] at hr; cases hr
theorem Do.mono {keep keep' : Bool} {o : Oper} {κ : ST S → Option α} {r : α} (hk : keep' = true → keep = true) (h : Do g keep o a w κ r) : Do g keep' o a w κ r := fun Q =>
  Oper.wp_mono (fun a' w' ⟨own', st', h1, h2, h3, h4⟩ => ⟨own', st', h1, h2, h3, fun h => h4 (hk h)⟩) (h Q)
theorem op_do {o : Oper} {hn : Hint} {κ π : ST S → Option α} {r : α} (ok : S.Ok) (T : TysOk g.P g.E) (hfs : ∀ f F, g.E.fs f = some F → FnOk g.P F f) (hpin : ∀ d, d < a.tmps.size → g.pin d = none) (h : Rel g own st a w) (hd : ∀ d, o.dst = some d → d < a.tmps.size)
    (hκ : opK π g.E hn o st κ = some r) : DoP g π (keepsOp g.E o) o a w κ r := by
  cases hr : reads g.E o with
  | true => exact (op_rd ok T h hd hr hκ).do.pan
  | false =>
    cases ho : o.op with
    | alloc e => exact ((do_alloc ok T hpin h hd ho hκ).mono (fun _ => rfl)).pan
    | box e x => exact ((do_box ok hpin h hd ho hκ).mono (fun _ => rfl)).pan
    | buildSlice e n ps => exact ((do_buildSlice ok T h hd ho hκ).mono (fun _ => rfl)).pan
    | makeSlice e l c => exact ((do_makeSlice ok T h hd ho hκ).mono (fun _ => rfl)).pan
    | store e x y => exact ((do_store ok T (hn := hn) h ho hκ).mono (fun e => by simp [keepsOp, ho] at e)).pan
    | call c =>
      simp only [opK, ho] at hκ
      cases hc : c.callee with
      | value x =>
        cases x with
        | func f => exact do_call ok T hfs hpin h hd ho hc (by simp only [opK, ho]; exact hκ)
        | tmp s => exact do_callC ok hfs hpin h hd ho hc (by simp only [opK, ho]; exact hκ)
        | _ => rw [hc] at hκ; cases hκ
      | builtin b =>
        cases b with
        | append => exact ((do_append ok T h hd ho hc (by simp only [opK, ho]; exact hκ)).mono (fun e => by simp [keepsOp, ho, hc] at e)).pan
        | len => unfold reads at hr; rw [ho] at hr; simp only [hc] at hr; cases hr
        | min => unfold reads at hr; rw [ho] at hr; simp only [hc] at hr; cases hr
        | max => unfold reads at hr; rw [ho] at hr; simp only [hc] at hr; cases hr
        | _ => rw [hc] at hκ; cases hκ
      | invoke x n => rw [hc] at hκ; cases hκ
    | slice e x lo hi mx => unfold reads at hr; rw [ho] at hr; cases hr
    | move => unfold reads at hr; rw [ho] at hr; cases hr
    | assign => unfold reads at hr; rw [ho] at hr; cases hr
    | pick => unfold reads at hr; rw [ho] at hr; cases hr
    | build => unfold reads at hr; rw [ho] at hr; cases hr
    | load => unfold reads at hr; rw [ho] at hr; cases hr
    | nilCheck => unfold reads at hr; rw [ho] at hr; cases hr
    | binOp => unfold reads at hr; rw [ho] at hr; cases hr
    | unOp => unfold reads at hr; rw [ho] at hr; cases hr
    | convert s d x => exact ((do_convert ok T h hd ho hκ).mono (fun _ => rfl)).pan
    | fieldAddr => unfold reads at hr; rw [ho] at hr; cases hr
    | field => unfold reads at hr; rw [ho] at hr; cases hr
    | indexAddr => unfold reads at hr; rw [ho] at hr; cases hr
    | index => unfold reads at hr; rw [ho] at hr; cases hr
    | extract => unfold reads at hr; rw [ho] at hr; cases hr
    | makeFunc => unfold reads at hr; rw [ho] at hr; cases hr
    | lookup => unfold reads at hr; rw [ho] at hr; cases hr
    | makeMap t res => exact ((do_makeMap ok h hd ho hκ).mono (fun _ => rfl)).pan
    | mapUpdate t x i z => exact ((do_mapUpdate ok T (hn := hn) h ho hκ).mono (fun e => by simp [keepsOp, ho] at e)).pan
    | _ => simp only [opK, ho] at hκ; cases hκ
theorem put_same {a : Act} {d : Nat} {v : Value} (hd : d < a.tmps.size) (h : a.tmps.getD d undef = v) : a.put (some d) v = a := by
  have : a.tmps.setIfInBounds d v = a.tmps := by
    apply Array.ext_getElem?
    intro i
    rw [Array.getElem?_setIfInBounds]
    by_cases hi : d = i
    · subst hi
      simp only [if_true, hd]
      rw [Array.getD_eq_getD_getElem?] at h
      simp [hd] at h ⊢
      exact h.symm
    · rw [if_neg hi]
  simp only [Act.put, this]
theorem beqs (x b : Bool) : (some x == some b) = (x == b) := by cases x <;> cases b <;> rfl
theorem guard_step {ops : Array Oper} {o : Oper} {hn : Hint} {κ π : ST S → Option α} {r : α} (h : Rel g own st a w) (hall : ∀ (o : Oper), o ∈ ops.toList → ∀ d, o.dst = some d → d < a.tmps.size) (hd : ∀ d, o.dst = some d → d < a.tmps.size)
    (hκ : guardK π g.E hn ops.toList o st κ = some r) :
    (Region.wanted o (yielded ops a.tmps) = true ∧ ∃ st1, Rel g own st1 a w ∧ opK π g.E hn o st1 κ = some r) ∨
    (Region.wanted o (yielded ops a.tmps) = false ∧ ∃ st1, Rel g own st1 (a.put o.dst undef) w ∧ κ st1 = some r) := by
  unfold guardK at hκ
  split at hκ
  · rename_i hg
    exact .inl ⟨by simp [Region.wanted, hg], st, h, hκ⟩
  · rename_i j b hg
    split at hκ
    · rename_i d hdj
      split at hκ
      · rename_i m x hl
        split at hκ
        · have hκ := ask_some hκ
          have hv := h.vals d
          rw [hl] at hv
          have hdl : d < a.tmps.size := by
            obtain ⟨oj, h1, h2⟩ := Option.bind_eq_some_iff.1 hdj
            exact hall oj (List.mem_of_getElem? h1) d h2
          have hval : a.tmps.getD d undef = .bool x := by
            obtain ⟨cs, h1, h2⟩ := TR_ro.1 hv
            have := Cx.R_bool.1 h2
            subst this
            exact (List.cons.inj h1).1.symm
          have hrel : Rel g own (st.put hn d (.v .bool .ro x)) a w := by
            have := h.put hn hdl (x := .v .bool .ro x) (v := .bool x) (TR_ro.2 ro_bool)
            rw [put_same hdl hval] at this
            exact this
          have hy : yielded ops a.tmps j = some x := by
            have hdj' : (ops[j]?).bind (·.dst) = some d := by simpa using hdj
            unfold yielded
            rw [hdj']
            have : a.tmps[d]? = some (.bool x) := by
              rw [Array.getD_eq_getD_getElem?] at hval
              rw [Array.getElem?_eq_getElem hdl] at hval ⊢
              simpa using hval
            simp only [Option.bind_some, this]
            rfl
          have hw : Region.wanted o (yielded ops a.tmps) = @BEq.beq Bool _ x b := by
            simp only [Region.wanted, hg, hy]
            exact beqs x b
          split at hκ
          · rename_i e
            exact .inl ⟨by rw [hw]; exact e, _, hrel, hκ⟩
          · rename_i e
            refine .inr ⟨by rw [hw]; exact e, ?_⟩
            cases hdst : o.dst with
            | none => rw [hdst] at hκ; exact ⟨_, hrel, hκ⟩
            | some d' =>
              rw [hdst] at hκ
              exact ⟨_, hrel.put hn (hd d' hdst) (x := .und) rfl, hκ⟩
        · cases hκ
      · rename_i hl
        have hv := h.vals d
        rw [hl] at hv
        have hv : a.tmps.getD d undef = undef := hv
        have hy : yielded ops a.tmps j = none := by
          have hdj' : (ops[j]?).bind (·.dst) = some d := by simpa using hdj
          unfold yielded
          rw [hdj']
          simp only [Option.bind_some]
          rw [Array.getD_eq_getD_getElem?] at hv
          cases he : a.tmps[d]? with
          | none => rfl
          | some v => rw [he] at hv; simp at hv; subst hv; rfl
        have hw : Region.wanted o (yielded ops a.tmps) = false := by
          simp only [Region.wanted, hg, hy]
          rfl
        refine .inr ⟨hw, ?_⟩
        cases hdst : o.dst with
        | none => rw [hdst] at hκ; exact ⟨_, h, hκ⟩
        | some d' =>
          rw [hdst] at hκ
          exact ⟨_, h.put hn (hd d' hdst) (x := .und) rfl, hκ⟩
      · cases hκ
    · cases hκ
structure Keeps (K : Nat → Prop) (w w' : World) : Prop where
  os : w'.os = w.os
  tape : w'.tape = w.tape
  output : w'.output = w.output
  block : ∀ b x, K b → w.heap[b]? = some x → w'.heap[b]? = some x
theorem Keeps.refl (K : Nat → Prop) (w : World) : Keeps K w w := ⟨rfl, rfl, rfl, fun _ _ _ h => h⟩
theorem Keeps.trans {K : Nat → Prop} {w w' w'' : World} (h : Keeps K w w') (h' : Keeps K w' w'') : Keeps K w w'' :=
  ⟨h'.os.trans h.os, h'.tape.trans h.tape, h'.output.trans h.output, fun b x hk hb => h'.block b x hk (h.block b x hk hb)⟩
theorem Keeps.mono {K K' : Nat → Prop} {w w' : World} (h : Keeps K w w') (hk : ∀ b, K' b → K b) : Keeps K' w w' := ⟨h.os, h.tape, h.output, fun b x hb => h.block b x (hk b hb)⟩
theorem Keeps.same {K : Nat → Prop} {w w' : World} (h : Keeps K w w') {b : Nat} (hb : b < w.heap.size) (hk : K b) : w'.heap[b]? = w.heap[b]? := by
  have e := Array.getElem?_eq_getElem hb
  rw [e, h.block b _ hk e]
theorem Keeps.of_below {K : Nat → Prop} {w w' : World} (h : Below w.heap.size w w') : Keeps K w w' := ⟨h.os, h.tape, h.output, fun b x _ hx => by
  rw [h.block b (Array.getElem?_eq_some_iff.1 hx).1]; exact hx⟩
theorem Keeps.below {K : Nat → Prop} {w w' : World} (h : Keeps K w w') (hk : ∀ b, K b) : Below w.heap.size w w' := ⟨h.os, h.tape, h.output, by
  rcases Nat.eq_zero_or_pos w.heap.size with h0 | h0
  · omega
  · have := h.same (b := w.heap.size - 1) (by omega) (hk _)
    rw [Array.getElem?_eq_getElem (show w.heap.size - 1 < w.heap.size by omega)] at this
    have := (Array.getElem?_eq_some_iff.1 this).1
    omega, fun b hb => h.same hb (hk b)⟩
def fixedT (ops : Array Oper) (t : Nat) : Bool := ops.toList.all fun o => match o.dst with
  | some d => d != t
  | none => true
theorem fixedT_ne {ops : Array Oper} {t : Nat} (h : fixedT ops t = true) {i d : Nat} {o : Oper} (hi : ops[i]? = some o) (hd : o.dst = some d) : d ≠ t := by
  have := List.all_eq_true.1 h o (List.mem_of_getElem? (by simpa using hi : ops.toList[i]? = some o))
  rw [hd] at this
  simpa using this
def Fix (ops : Array Oper) (a a' : Act) : Prop := ∀ t, fixedT ops t = true → a'.tmps.getD t undef = a.tmps.getD t undef
theorem Fix.refl (ops : Array Oper) (a : Act) : Fix ops a a := fun _ _ => rfl
theorem Fix.trans {ops : Array Oper} {a a' a'' : Act} (h : Fix ops a a') (h' : Fix ops a' a'') : Fix ops a a'' := fun t ht => (h' t ht).trans (h t ht)
theorem Fix.symm {ops : Array Oper} {a a' : Act} (h : Fix ops a a') : Fix ops a' a := fun t ht => (h t ht).symm
theorem getD_set_ne' {A : Array Value} {d t : Nat} {v : Value} (h : d ≠ t) : (A.setIfInBounds d v).getD t undef = A.getD t undef := by
  rw [Array.getD_eq_getD_getElem?, Array.getD_eq_getD_getElem?, Array.getElem?_setIfInBounds, if_neg h]
theorem Fix.put {ops : Array Oper} {i : Nat} {o : Oper} (hi : ops[i]? = some o) (a : Act) (v : Value) : Fix ops a (a.put o.dst v) := fun t ht => by
  cases hd : o.dst with
  | none => rfl
  | some d => exact getD_set_ne' (fixedT_ne ht hi hd)
theorem opwp_fix {P : Program} {Q : Exit → Act → World → Prop} {ops : Array Oper} {j : Nat} {oj : Oper} (hj : ops[j]? = some oj) {K : Act → World → Prop}
    (h : oj.wp P a w K Q) : oj.wp P a w (fun a' w' => Fix ops a a' ∧ K a' w') Q := by
  unfold Oper.wp at *
  generalize (execOp a.eval oj).run P w = r at *
  cases r with
  | ok n w' =>
    cases n <;> simp only [Oper.upon] at h ⊢
    case value u => exact ⟨.put hj a u, h⟩
    case skip => exact ⟨.put hj a _, h⟩
    case defer d => exact ⟨.put hj { a with defers := d :: a.defers } _, h⟩
    case enter f args =>
      refine Calls.mono h fun e w'' he => ?_
      cases e with
      | returned u => exact ⟨.put hj a u, he⟩
      | panicked c => exact he
      | outgrown => exact he
    case row row args => exact Rows.mono h fun u w'' he => ⟨.put hj a u, he⟩
  | halt x w' =>
    cases x <;> simp only [Oper.upon] at h ⊢
    case panic u => exact h
theorem wpOp_fix {P : Program} {Q : Exit → Act → World → Prop} {ops : Array Oper} {j : Nat} {oj : Oper} (hj : ops[j]? = some oj) {K : Act → World → Prop}
    (h : wpOp P ops Q j K a w) : wpOp P ops Q j (fun a' w' => Fix ops a a' ∧ K a' w') a w := by
  unfold wpOp at *
  simp only [hj] at h ⊢
  split
  · rename_i hw
    simp only [hw, if_true] at h
    rcases h with h | h
    · exact .inl (opwp_fix hj h)
    · exact .inr h
  · rename_i hw
    simp only [hw] at h
    exact ⟨.put hj a _, h⟩
def kOp (E : Env S) (ops : Array Oper) (a : Act) (o : Oper) (b : Nat) : Prop :=
  keepsOp E o = true ∨ ∃ e t y, o.op = .store e (.tmp t) y ∧ fixedT ops t = true ∧ ∀ b' off p, a.tmps.getD t undef = .pointer (some ⟨b', off, p⟩) → b ≠ b'
theorem kOp_fix {E : Env S} {ops : Array Oper} {a a' : Act} (h : Fix ops a a') {o : Oper} {b : Nat} (hk : kOp E ops a o b) : kOp E ops a' o b := by
  rcases hk with hk | ⟨e, t, y, h1, h2, h3⟩
  · exact .inl hk
  · exact .inr ⟨e, t, y, h1, h2, fun b' off p hp => h3 b' off p ((h t h2).symm.trans hp)⟩
def wpAnyK (P : Program) (E : Env S) (md : Region.Mode) (ops : Array Oper) (Q : Exit → Act → World → Prop) : Nat → Array Bool → Act → World → Prop
  | 0, listed, a, w => Region.ready md ops listed = [] ∧ Q .normal a w
  | fuel + 1, listed, a, w =>
    (Region.ready md ops listed = [] → Q .normal a w) ∧
    ∀ i ∈ Region.ready md ops listed, wpOp P ops Q i (fun a' w' => (∀ o, ops[i]? = some o → Keeps (kOp E ops a o) w w') ∧ wpAnyK P E md ops Q fuel (listed.setIfInBounds i true) a' w') a w
theorem wpAny_of_K {P : Program} {E : Env S} {md : Region.Mode} {ops : Array Oper} {Q : Exit → Act → World → Prop} : ∀ (fuel : Nat) (listed : Array Bool) (a : Act) (w : World), wpAnyK P E md ops Q fuel listed a w → wpAny P md ops Q fuel listed a w
  | 0, _, _, _, h => h
  | fuel + 1, _, _, _, h => ⟨h.1, fun i hi => wpOp_mono (fun a' w' h' => wpAny_of_K fuel _ a' w' h'.2) (h.2 i hi)⟩
def Waits (md : Region.Mode) (ops : Array Oper) (i : Nat) (W : List Nat) : Prop := ∀ j ∈ W, ∃ oj, ops[j]? = some oj ∧ ∃ e ∈ oj.after, Region.binds md e = true ∧ (e.on = i ∨ e.on ∈ W)
def waitsGo (md : Region.Mode) (ops : Array Oper) (i : Nat) : List Nat → List Nat → List Nat
  | [], acc => acc
  | j :: js, acc => waitsGo md ops i js (match ops[j]? with
    | some o => match o.after.any (fun e => Region.binds md e && (e.on == i || acc.contains e.on)) with
      | true => j :: acc
      | false => acc
    | none => acc)
theorem waitsGo_ok {md : Region.Mode} {ops : Array Oper} {i : Nat} : ∀ (js acc : List Nat), Waits md ops i acc → Waits md ops i (waitsGo md ops i js acc) := by
  intro js
  induction js with
  | nil => intro acc h; exact h
  | cons j js ih =>
    intro acc h
    refine ih _ ?_
    split
    · rename_i o ho
      split
      · rename_i hany
        obtain ⟨e, he, hb⟩ := Array.any_eq_true'.1 hany
        simp only [Bool.and_eq_true, Bool.or_eq_true, beq_iff_eq, List.contains_iff_mem] at hb
        intro k hk
        rcases List.mem_cons.1 hk with rfl | hk
        · exact ⟨o, ho, e, he, hb.1, hb.2.imp id (List.mem_cons_of_mem _)⟩
        · obtain ⟨ok, h1, e', h2, h3, h4⟩ := h k hk
          exact ⟨ok, h1, e', h2, h3, h4.imp id (List.mem_cons_of_mem _)⟩
      · exact h
    · exact h
theorem wpAnyK_first {P : Program} {E : Env S} {md : Region.Mode} {ops : Array Oper} {Q : Exit → Act → World → Prop} {i : Nat} {oi : Oper} {v : Value} {B : Nat → Prop} {W : List Nat} (hW : Waits md ops i W) (hi : ops[i]? = some oi)
    (hsel : ∀ (j : Nat) (o : Oper) cs b, ops[j]? = some o → o.op ≠ .select cs b) (hQ : ∀ c a w, Q (.panic c) (a.put oi.dst v) w → Q (.panic c) a w) :
    ∀ (fuel : Nat) (listed : Array Bool) (a : Act) (w : World),
      (∀ j ∈ W, listed.getD j true = false) → (∀ j oj, ops[j]? = some oj → j ≠ i → listed.getD j true = false → j ∉ W → (∀ e ∈ oj.after, Region.binds md e = true → e.on ≠ i) → oi.apart ops oj = true ∧ ∀ b, B b → kOp E ops a oj b) →
      i ∈ Region.ready md ops listed → YieldsIf P ops (Keeps B w) oi v a →
      wpAnyK P E md ops Q fuel (listed.setIfInBounds i true) (a.put oi.dst v) w → wpAnyK P E md ops Q (fuel + 1) listed a w := by
  intro fuel
  induction fuel with
  | zero =>
    intro listed a w _ _ hr hy H
    refine ⟨fun h => (by rw [h] at hr; cases hr), fun j hj => ?_⟩
    by_cases hji : j = i
    · subst hji; exact hy.wpOp hi (Keeps.refl _ _) ⟨fun _ _ => Keeps.refl _ _, H⟩
    · have := ready_mono hj hji
      rw [H.1] at this
      cases this
  | succ fuel ih =>
    intro listed a w hWl hfree hr hy H
    refine ⟨fun h => (by rw [h] at hr; cases hr), fun j hj => ?_⟩
    by_cases hji : j = i
    · subst hji; exact hy.wpOp hi (Keeps.refl _ _) ⟨fun _ _ => Keeps.refl _ _, H⟩
    · have h1 := H.2 j (ready_mono hj hji)
      obtain ⟨hjun, oj, hoj, hall⟩ := mem_ready.1 hj
      have hnot : ∀ e ∈ oj.after, Region.binds md e = true → e.on ≠ i := fun e he hb heq => by
        have h1 := hall e he hb
        have h0 := (mem_ready.1 hr).1
        rw [heq] at h1
        rcases Nat.lt_or_ge i listed.size with h' | h'
        · simp [h'] at h0 h1; rw [h0] at h1; cases h1
        · simp [Array.getElem?_eq_none h'] at h1
      have hjW : j ∉ W := fun hm => by
        obtain ⟨oj', h1', e, he, hb, hor⟩ := hW j hm
        rw [hoj] at h1'
        cases h1'
        have hl := hall e he hb
        rcases hor with hor | hor
        · exact hnot e he hb hor
        · have hu := hWl e.on hor
          rcases Nat.lt_or_ge e.on listed.size with h' | h'
          · simp [h'] at hu hl; rw [hu] at hl; cases hl
          · simp [Array.getElem?_eq_none h'] at hl
      obtain ⟨hap, hks⟩ := hfree j oj hoj hji hjun hjW hnot
      have h2 := wpOp_fix hoj (wpOp_putIf hoj hap (fun cs b => hsel i oi cs b hi) (fun cs b => hsel j oj cs b hoj) hQ hy h1)
      refine wpOp_mono (fun a' w' h3 => ?_) h2
      obtain ⟨hfx, hyi, hkeep, h4⟩ := h3
      have hkeep := hkeep oj hoj
      have hkeep' : Keeps (kOp E ops a oj) w w' := hkeep.mono fun b hb => kOp_fix (.put hi a v) hb
      refine ⟨fun o ho => by rw [hoj] at ho; cases ho; exact hkeep', ?_⟩
      have hfree' : ∀ k ok, ops[k]? = some ok → k ≠ i → (listed.setIfInBounds j true).getD k true = false →
          k ∉ W → (∀ e ∈ ok.after, Region.binds md e = true → e.on ≠ i) → oi.apart ops ok = true ∧ ∀ b, B b → kOp E ops a' ok b := fun k ok hk hki hun hkW hno => by
        have := hfree k ok hk hki (by
          by_cases hjk : j = k
          · subst hjk; exact hjun
          · rw [getD_set_ne true hjk] at hun; exact hun) hkW hno
        exact ⟨this.1, fun b hb => kOp_fix hfx (this.2 b hb)⟩
      have hbel : Keeps B w w' := hkeep'.mono hks
      have hWl' : ∀ k ∈ W, (listed.setIfInBounds j true).getD k true = false := fun k hk => by
        have : j ≠ k := fun e => hjW (e ▸ hk)
        rw [getD_set_ne true this]; exact hWl k hk
      refine ih (listed.setIfInBounds j true) a' w' hWl' hfree' (ready_mono hr (Ne.symm hji)) ?_ ?_
      · rcases hyi with ⟨hw, hv⟩ | hw
        · exact .inl ⟨hw, fun w'' hw'' => hv w'' (hbel.trans hw'')⟩
        · exact .inr hw
      · rw [Array.setIfInBounds_comm _ _ hji]
        exact h4
def noMem0 (o : Oper) : Bool :=
  match o.op with
  | .move _ | .assign _ | .extract .. => true
  | _ => false
def noMem (o : Oper) : Bool :=
  match o.op with
  | .move _ | .assign _ | .extract .. | .nilCheck _ | .fieldAddr .. => true
  | _ => false
theorem noMem_run {P : Program} {ρ : Operand → Value} {o : Oper} {v : Value} {w : World} (h : noMem0 o = true) (hr : (execOp ρ o).run P w = .ok (.value v) w) (w' : World) : (execOp ρ o).run P w' = .ok (.value v) w' := by
  unfold noMem0 at h
  split at h
  · rename_i x ho
    have e := run_move (P := P) (ρ := ρ) (.inl ho) w
    rw [hr] at e
    cases e
    exact run_move (.inl ho) w'
  · rename_i x ho
    have e := run_move (P := P) (ρ := ρ) (.inr ho) w
    rw [hr] at e
    cases e
    exact run_move (.inr ho) w'
  · rename_i x i ho
    simp only [execOp, ho] at hr ⊢
    unfold Instr.extract at hr ⊢
    split at hr
    · split at hr
      · cases hr; rfl
      · cases hr
    · cases hr
  · cases h
def sepOp (ops : Array Oper) (ps : List (Nat × Nat)) (o oj : Oper) : Bool :=
  match o.op with
  | .load _ (.tmp t) => match oj.op with
    | .store _ (.tmp t') _ => fixedT ops t && fixedT ops t' && ps.contains (t, t')
    | _ => false
  | _ => false
def freeFor (E : Env S) (ops : Array Oper) (ps : List (Nat × Nat)) (W : List Nat) (i : Nat) (listed : Array Bool) : Bool :=
  W.all (fun j => !listed.getD j true) && (List.range ops.size).all fun j => j == i || listed.getD j true || match ops[j]? with
    | some oj => oj.after.any (fun e => Region.binds .any e && e.on == i) || keepsOp E oj || (match ops[i]? with
      | some o => noMem o || sepOp ops ps o oj
      | none => false) || W.contains j
    | none => true
def stepOk (E : Env S) (ops : Array Oper) (ps : List (Nat × Nat)) (i : Nat) (listed : Array Bool) : Bool :=
  match Region.ready .any ops listed with
  | [j] => i == j
  | rs => rs.contains i && (match ops[i]? with
    | some o => reads E o
    | none => false) && Region.free .any ops listed i && (freeFor E ops ps [] i listed || freeFor E ops ps (waitsGo .any ops i (List.range ops.size) []) i listed)
def okOrd (E : Env S) (ops : Array Oper) (ps : List (Nat × Nat)) : List Nat → Array Bool → Bool
  | [], listed => (Region.ready .any ops listed).isEmpty
  | i :: l, listed => stepOk E ops ps i listed && okOrd E ops ps l (listed.setIfInBounds i true)
def QV (g : Gl S) (n : Nat) (κ : Exit → ST S → Option α) (r : α) : Exit → Act → World → Prop := fun e a w =>
  match e with
  | .panic c => c = [{ v := .iface g.E.pt (.agg #[]), recovered := false }] ∧ a.defers = g.defs ∧ ∃ a0 own st, Rel g own st a0 w ∧ κ (.panic []) st = some r
  | .outgrown => False
  | .goto _ => False
  | e => ∃ own st, Rel g own st a w ∧ κ e st = some r ∧ a.tmps.size = n
theorem load_keeps {o : Oper} {e : TypeId} {x : Operand} {hn : Hint} {κ π : ST S → Option α} {r : α} (ok : S.Ok) (T : TysOk g.P g.E) (h : Rel g own st a w)
    (ho : o.op = .load e x) (hκ : opK π g.E hn o st κ = some r) : ∃ v, ∀ w', (∀ b off p, a.eval x = .pointer (some ⟨b, off, p⟩) → b < w.heap.size → w'.heap[b]? = w.heap[b]?) → (execOp a.eval o).run g.P w' = .ok (.value v) w' := by
  simp only [opK, ho] at hκ
  have hv := av_ok g.E h x 0 0
  split at hκ
  · rename_i t y ex
    rw [ex] at hv
    obtain ⟨b, off, cs, v1, hb, hc, hR⟩ := hv
    split at hκ
    · rename_i ht
      have tf := isB_load T ht
      refine ⟨valOf t cs, fun w' hw' => ?_⟩
      simp only [execOp, ho, v1]
      exact run_v (tf.1 (by rw [cellsAt_same (hw' b off none v1 (cellsAt_lt hc))]; exact hc))
    · cases hκ
  · rename_i rt p ex
    rw [ex] at hv
    obtain ⟨b, off, cs, c, hp, v1⟩ := hv
    split at hκ
    · rename_i t m y e2
      have := at_place hp e2
      subst this
      split at hκ
      · rename_i ht
        have tf := isB_load T ht
        obtain ⟨hl, hcs⟩ := hp.cells ok h
        have hc := hcs b off rfl
        refine ⟨valOf t cs, fun w' hw' => ?_⟩
        simp only [execOp, ho, v1]
        exact run_v (tf.1 (by rw [cellsAt_same (hw' b off none v1 (cellsAt_lt hc))]; exact hc))
      · cases hκ
    · cases hκ
  · cases hκ
def RdB (g : Gl S) (B : Nat → Prop) (o : Oper) (a : Act) (w : World) (κ : ST S → Option α) (r : α) : Prop :=
  ∃ v own' st', (∀ w', Keeps B w w' → (execOp a.eval o).run g.P w' = .ok (.value v) w') ∧ Rel g own' st' (a.put o.dst v) w ∧ κ st' = some r
def bOp (a : Act) (o : Oper) (b : Nat) : Prop := noMem o = false ∧ ∀ e t, o.op = .load e (.tmp t) → ∃ off p, a.tmps.getD t undef = .pointer (some ⟨b, off, p⟩)
theorem nil_any {o : Oper} {x : Operand} {hn : Hint} {κ π : ST S → Option α} {r : α} (h : Rel g own st a w) (ho : o.op = .nilCheck x) (hκ : opK π g.E hn o st κ = some r) : ∃ v, ∀ w', (execOp a.eval o).run g.P w' = .ok (.value v) w' := by
  simp only [opK, ho] at hκ
  have hv := av_ok g.E h x 0 0
  split at hκ
  · rename_i n m y ex
    rw [ex] at hv
    have hm := av_ro g.E ex
    subst hm
    obtain ⟨cs, h1, h2⟩ := TR_ro.1 hv
    obtain ⟨z, hz, hκ⟩ := bindR_some hκ
    rcases Cx.R_ptr.1 h2 with ⟨_, hy⟩ | ⟨b, z', cs', rfl, hy, hZ, hc, hR, _⟩
    · exact absurd (hy.symm.trans hz) (by simp)
    · have v1 : a.eval x = .pointer (some ⟨b, 0, none⟩) := (List.cons.inj h1).1.symm
      exact ⟨_, fun w' => run_nilCheck ho v1 w'⟩
  · rename_i n m y ex
    rw [ex] at hv
    have hm := av_ro g.E ex
    subst hm
    obtain ⟨cs, h1, h2⟩ := TR_ro.1 hv
    obtain ⟨z, hz, hκ⟩ := bindR_some hκ
    rcases Cx.R_lptr.1 h2 with ⟨_, hy⟩ | ⟨b, z', cs', rfl, hy, hZ, hc, hR, _⟩
    · exact absurd (hy.symm.trans hz) (by simp)
    · have v1 : a.eval x = .pointer (some ⟨b, 0, none⟩) := (List.cons.inj h1).1.symm
      exact ⟨_, fun w' => run_nilCheck ho v1 w'⟩
  · rename_i rt p ex
    rw [ex] at hv
    obtain ⟨b, off, cs, c, hp, v1⟩ := hv
    exact ⟨_, fun w' => run_nilCheck ho v1 w'⟩
  · rename_i t y ex
    rw [ex] at hv
    obtain ⟨b, off, cs, v1, _⟩ := hv
    exact ⟨_, fun w' => run_nilCheck ho v1 w'⟩
  · cases hκ
theorem field_any {o : Oper} {e : TypeId} {x : Operand} {f : Nat} {hn : Hint} {κ π : ST S → Option α} {r : α} (T : TysOk g.P g.E) (h : Rel g own st a w) (ho : o.op = .fieldAddr e x f) (hκ : opK π g.E hn o st κ = some r) :
    ∃ v, ∀ w', (execOp a.eval o).run g.P w' = .ok (.value v) w' := by
  simp only [opK, ho] at hκ
  have hv := av_ok g.E h x 0 0
  split at hκ
  · rename_i t y ex
    rw [ex] at hv
    obtain ⟨b, off, cs, v1, hb, hc, hR⟩ := hv
    split at hκ
    · rename_i ht
      split at hκ
      · rename_i p hp
        obtain ⟨u, q, rfl, rfl, hq⟩ := fieldPath_some hp
        obtain ⟨off', tt, h1, _⟩ := run_fieldAt T (T _ _ (Env.is_lookup ht)) hq
        exact ⟨_, fun w' => run_fieldAddr ho v1 (h1 w' b off)⟩
      · cases hκ
    · cases hκ
  · rename_i rt p ex
    rw [ex] at hv
    obtain ⟨b, off, cs, c, hp, v1⟩ := hv
    split at hκ
    · rename_i c' e2
      split at hκ
      · rename_i ht
        split at hκ
        · rename_i q hq0
          obtain ⟨ct, cm, cx⟩ := c'
          obtain ⟨u, q, hct, rfl, hq⟩ := fieldPath_some hq0
          simp only at hct ht
          subst hct
          obtain ⟨off', tt, h1, _⟩ := run_fieldAt T (T _ _ (Env.is_lookup ht)) hq
          exact ⟨_, fun w' => run_fieldAddr ho v1 (h1 w' b off)⟩
        · cases hκ
      · cases hκ
    · cases hκ
  · cases hκ
theorem op_rdB {o : Oper} {hn : Hint} {κ π : ST S → Option α} {r : α} (ok : S.Ok) (T : TysOk g.P g.E) (h : Rel g own st a w) (hd : ∀ d, o.dst = some d → d < a.tmps.size)
    (hr : reads g.E o = true) (hκ : opK π g.E hn o st κ = some r) : RdB g (bOp a o) o a w κ r := by
  obtain ⟨v, own', st', h1, h2, h3⟩ := op_rd ok T h hd hr hκ
  cases hnm : noMem o with
  | true =>
    have e1 := h1 w (Below.refl _ _)
    have any : (∃ v, ∀ w', (execOp a.eval o).run g.P w' = .ok (.value v) w') → RdB g (bOp a o) o a w κ r := fun ⟨v', hv'⟩ => by
      have e2 := hv' w
      rw [e1] at e2
      cases e2
      exact ⟨v, own', st', fun w' _ => hv' w', h2, h3⟩
    by_cases h0 : noMem0 o = true
    · exact ⟨v, own', st', fun w' _ => noMem_run h0 e1 w', h2, h3⟩
    · cases ho : o.op with
      | nilCheck x => exact any (nil_any h ho hκ)
      | fieldAddr e x f => exact any (field_any T h ho hκ)
      | move x => exact absurd (by simp [noMem0, ho]) h0
      | assign x => exact absurd (by simp [noMem0, ho]) h0
      | extract x i => exact absurd (by simp [noMem0, ho]) h0
      | _ => simp [noMem, ho] at hnm
  | false =>
  by_cases hl : ∃ e t, o.op = .load e (.tmp t)
  · obtain ⟨e, t, ho⟩ := hl
    obtain ⟨v', hv'⟩ := load_keeps ok T h ho hκ
    have e1 := h1 w (Below.refl _ _)
    have e2 := hv' w (fun _ _ _ _ _ => rfl)
    rw [e1] at e2
    cases e2
    refine ⟨v, own', st', fun w' hw' => hv' w' fun b off p hb hlt => hw'.same hlt ?_, h2, h3⟩
    refine ⟨hnm, ?_⟩
    intro e2 t2 ho2
    rw [ho] at ho2
    cases ho2
    exact ⟨off, p, hb⟩
  · exact ⟨v, own', st', fun w' hw' => h1 w' (hw'.below fun b => ⟨hnm, fun e t ho => absurd ⟨e, t, ho⟩ hl⟩), h2, h3⟩
theorem putCells_os (w : World) (b off : Nat) (cs : List Value) : (putCells w b off cs).os = w.os ∧ (putCells w b off cs).tape = w.tape ∧ (putCells w b off cs).output = w.output := ⟨rfl, rfl, rfl⟩
def DoK (g : Gl S) (π : ST S → Option α) (ops : Array Oper) (o : Oper) (a : Act) (w : World) (κ : ST S → Option α) (r : α) : Prop :=
  ∀ (Q : Exit → Act → World → Prop) (A : Act → Prop), PanOk g π r Q A → A a → o.wp g.P a w (fun a' w' => ∃ own' st', Rel g own' st' a' w' ∧ κ st' = some r ∧ a'.tmps.size = a.tmps.size ∧ Keeps (kOp g.E ops a o) w w') Q
theorem store_keeps {ops : Array Oper} {o : Oper} {e : TypeId} {x y : Operand} {hn : Hint} {κ π : ST S → Option α} {r : α} (ok : S.Ok) (T : TysOk g.P g.E) (h : Rel g own st a w) 
    (ho : o.op = .store e x y) (hκ : opK π g.E hn o st κ = some r) : DoK g π ops o a w κ r := by
  simp only [opK, ho] at hκ
  split at hκ
  · rename_i c st' e1 e2
    obtain ⟨own', cs, h1, hVS, hO, hL, hl⟩ := takeS_ok ok g.E h e2 []
    have hv := av_ok g.E h1 x 0 0
    split at hκ
    · rename_i rt p ex
      rw [ex] at hv
      obtain ⟨b, off, cs0, c0, hp, v1⟩ := hv
      split at hκ
      · rename_i ht
        split at hκ
        · rename_i st'' e3
          obtain ⟨⟨cur, ee, hblk⟩, own'', hrel⟩ := h1.store ok hp hO e3
          have hcells : (a.eval y).cells = cs.toArray := VS_list hVS (OW_one hO hl)
          obtain ⟨ut, hut1, hut2, _⟩ := isB_lookup ht
          have tf := T _ _ hut1
          have hlen : cs.length = S.size c.t := OW_len ok _ _ _ _ _ hO
          obtain ⟨_, hcs0⟩ := hp.cells ok h1
          have hfit : off + 0 + cs.length ≤ cur.size := by
            have hc0 := hcs0 b off rfl
            obtain ⟨t, m, xx, n, z, s1, s2, s3⟩ := setAt_some e3
            have ht0 : c0.t = c.t := by
              obtain ⟨t0, m0, x0, l0, csr, k1, k2, k3, k4, k5, k6⟩ := hp
              have hroot : (st'.killS rt p).root rt = st'.root rt := root_killS st' rt p rt
              rw [hroot, k1] at s1
              cases s1
              exact do_store.setP_type _ _ _ _ _ _ () s2 k6
            rw [ht0] at hc0
            unfold cellsAt at hc0
            rw [hblk] at hc0
            simp only at hc0
            split at hc0
            · omega
            · cases hc0
          have hrun := run_storeCells_at (P := g.P) b off ee cs 0 cur w hblk hfit (OW_one hO hl)
          rw [Nat.add_zero, setRow_putCells hblk] at hrun
          intro Q _ _ _
          unfold Oper.wp
          have : (execOp a.eval o).run g.P w = .ok .skip (putCells w b off cs) := by
            simp only [execOp, ho, v1, Instr.storeAt, Instr.sureAddr, storeVar, pure_bind, Sem.run_bind, tf.size w, hut2, Result.andThen_ok, hcells]
            rw [if_neg (by rw [List.size_toArray, hlen]; simp)]
            simp only [hrun, Result.andThen_ok]
            rfl
          rw [this]
          refine ⟨own'', st'', ?_, hκ, by rw [e1]; rfl, ?_⟩
          · rw [e1]
            exact hrel
          · obtain ⟨q1, q2, q3⟩ := putCells_os w b off cs
            refine ⟨q1, q2, q3, fun b' x' hk hx => ?_⟩
            refine (putCells_ne ?_).trans hx
            rcases hk with hk | ⟨e', t', y', k1, k2, k3⟩
            · simp [keepsOp, ho] at hk
            · rw [ho] at k1
              cases k1
              exact k3 b off none v1
        · cases hκ
      · cases hκ
    · cases hκ
  · cases hκ
theorem op_doK {ops : Array Oper} {o : Oper} {hn : Hint} {κ π : ST S → Option α} {r : α} (ok : S.Ok) (T : TysOk g.P g.E) (hfs : ∀ f F, g.E.fs f = some F → FnOk g.P F f) (hpin : ∀ d, d < a.tmps.size → g.pin d = none) (h : Rel g own st a w) (hd : ∀ d, o.dst = some d → d < a.tmps.size)
    (hκ : opK π g.E hn o st κ = some r) : DoK g π ops o a w κ r := by
  by_cases hs : ∃ e x y, o.op = .store e x y
  · obtain ⟨e, x, y, ho⟩ := hs
    exact store_keeps ok T h ho hκ
  · intro Q A hpan hA
    refine Oper.wp_mono (fun a' w' ⟨own', st', h1, h2, h3, h4⟩ => ⟨own', st', h1, h2, h3, ?_⟩) (op_do ok T hfs hpin h hd hκ Q A hpan hA)
    cases hk : keepsOp g.E o with
    | true => exact .of_below (h4 hk)
    | false =>
      -- what neither keeps all nor stores: of its blocks nothing is said
      refine ⟨h1.os.trans h.os.symm, h1.tape.trans h.tape.symm, h1.output.trans h.output.symm, fun b x hb _ => ?_⟩
      rcases hb with hb | ⟨e, t, y, ho, _⟩
      · rw [hk] at hb; cases hb
      · exact absurd ⟨e, _, y, ho⟩ hs
theorem rdB_yields {B : Nat → Prop} {ops : Array Oper} {o : Oper} {κ : ST S → Option α} {r : α} (h : RdB g B o a w κ r) (hw : Region.wanted o (yielded ops a.tmps) = true) :
    ∃ v own' st', YieldsIf g.P ops (Keeps B w) o v a ∧ Rel g own' st' (a.put o.dst v) w ∧ κ st' = some r := by
  obtain ⟨v, own', st', h1, h2, h3⟩ := h
  exact ⟨v, own', st', .inl ⟨hw, h1⟩, h2, h3⟩
def SepAt (ops : Array Oper) (ps : List (Nat × Nat)) (a : Act) : Prop := ∀ t t', (t, t') ∈ ps → ∀ b off p b' off' p', a.tmps.getD t undef = .pointer (some ⟨b, off, p⟩) → a.tmps.getD t' undef = .pointer (some ⟨b', off', p'⟩) → b ≠ b'
def OT.sz : OT → Nat
  | .done => 1
  | .step _ t => t.sz + 1
  | .both t u => t.sz + u.sz + 1
def OT.heads : OT → List (Nat × OT)
  | .done => []
  | .step i t => [(i, t)]
  | .both t u => t.heads ++ u.heads
mutual
def okT (E : Env S) (ops : Array Oper) : OT → Nat → Array Bool → Bool
  | .done, n, listed => Nat.beq n 0 && (Region.ready .any ops listed).isEmpty
  | .step i t, n, listed => stepOk E ops [] i listed && Nat.ble 1 n && okT E ops t (n - 1) (listed.setIfInBounds i true)
  | .both t u, n, listed => Nat.ble 1 n && !(Region.ready .any ops listed).isEmpty && (Region.ready .any ops listed).all (fun j => (OT.both t u).heads.any (·.1 == j)) && brT E ops t n listed && brT E ops u n listed
def brT (E : Env S) (ops : Array Oper) : OT → Nat → Array Bool → Bool
  | .done, _, _ => false
  | .step i t, n, listed => okT E ops t (n - 1) (listed.setIfInBounds i true)
  | .both t u, n, listed => brT E ops t n listed && brT E ops u n listed
end
theorem one_step {ops : Array Oper} {hn : Hint} {r : α} {π : ST S → Option α} {n : Nat} {Q : Exit → Act → World → Prop} (ok : S.Ok) (T : TysOk g.P g.E) (hfs : ∀ f F, g.E.fs f = some F → FnOk g.P F f)
    (hpin : ∀ d, d < n → g.pin d = none) {A : Act → Prop} (hPan : PanOk g π r Q A) (hall : ∀ (o : Oper), o ∈ ops.toList → ∀ d, o.dst = some d → d < n) {i : Nat} {o : Oper} (hi : ops[i]? = some o) {listed : Array Bool} {fuel : Nat} {κ' : ST S → Option α}
    {own : Nat → Option Own} {st : ST S} {a : Act} {w : World} (hA : A a) (h : Rel g own st a w) (hsz : a.tmps.size = n) (hκ : guardK π g.E hn ops.toList o st κ' = some r)
    (next : ∀ own' st' a' w', Fix ops a a' → Rel g own' st' a' w' → a'.tmps.size = n → κ' st' = some r → wpAnyK g.P g.E .any ops Q fuel (listed.setIfInBounds i true) a' w') :
    wpOp g.P ops Q i (fun a' w' => (∀ o, ops[i]? = some o → Keeps (kOp g.E ops a o) w w') ∧ wpAnyK g.P g.E .any ops Q fuel (listed.setIfInBounds i true) a' w') a w := by
  have hom : o ∈ ops.toList := List.mem_of_getElem? (by simpa using hi : ops.toList[i]? = some o)
  have hd : ∀ d, o.dst = some d → d < a.tmps.size := fun d hd => by rw [hsz]; exact hall o hom d hd
  have hstep := guard_step h (fun o ho d hd => by rw [hsz]; exact hall o ho d hd) hd hκ
  unfold wpOp
  simp only [hi]
  rcases hstep with ⟨hw, st1, h1, h2⟩ | ⟨hw, st1, h1, h2⟩
  · rw [if_pos hw]
    refine .inl (Oper.wp_mono ?_ (opwp_fix hi (op_doK (ops := ops) ok T hfs (by rw [hsz]; exact hpin) h1 hd h2 Q A hPan hA)))
    rintro a' w' ⟨k0, own', st', k1, k2, k3, k4⟩
    exact ⟨fun o' ho' => by cases ho'; exact k4, next own' st' a' w' k0 k1 (k3.trans hsz) k2⟩
  · rw [if_neg (by rw [hw]; simp)]
    exact ⟨fun _ _ => Keeps.refl _ _, next own st1 _ w (.put hi a _) h1 (tmps_put_size.trans hsz) h2⟩
theorem any_step {ops : Array Oper} {hn : Hint} {r : α} {π : ST S → Option α} {n : Nat} {Q : Exit → Act → World → Prop} {ps : List (Nat × Nat)} (ok : S.Ok) (T : TysOk g.P g.E) (hfs : ∀ f F, g.E.fs f = some F → FnOk g.P F f)
    (hpin : ∀ d, d < n → g.pin d = none) (hall : ∀ (o : Oper), o ∈ ops.toList → ∀ d, o.dst = some d → d < n) (hs : Region.noSelect ops = true) (hQp : ∀ c (o : Oper), o ∈ ops.toList → ∀ v a w, Q (.panic c) (a.put o.dst v) w → Q (.panic c) a w) {A : Act → Prop} (hPan : PanOk g π r Q A)
    {a0 : Act} (hsep : SepAt ops ps a0) {i : Nat} {o : Oper} (hi : ops[i]? = some o) {listed : Array Bool} (hord1 : stepOk g.E ops ps i listed = true) {fuel : Nat} {κ' : ST S → Option α}
    {own : Nat → Option Own} {st : ST S} {a : Act} {w : World} (hfx : Fix ops a0 a) (hA : A a) (h : Rel g own st a w) (hsz : a.tmps.size = n) (hκ : guardK π g.E hn ops.toList o st κ' = some r)
    (next : ∀ own' st' a' w', Fix ops a a' → Rel g own' st' a' w' → a'.tmps.size = n → κ' st' = some r → wpAnyK g.P g.E .any ops Q fuel (listed.setIfInBounds i true) a' w') :
    wpAnyK g.P g.E .any ops Q (fuel + 1) listed a w := by
  unfold stepOk at hord1
  split at hord1
  · rename_i j e
    have hij : i = j := by simpa using hord1
    subst hij
    refine ⟨(fun h0 => by rw [h0] at e; cases e), fun i' hi2 => ?_⟩
    rw [e] at hi2
    have : i' = i := by simpa using hi2
    subst this
    exact one_step ok T hfs hpin hPan hall hi hA h hsz hκ next
  · simp only [Bool.and_eq_true] at hord1
    obtain ⟨⟨⟨hc, hr⟩, hf⟩, hk0⟩ := hord1
    obtain ⟨W, hW, hk⟩ : ∃ W, Waits .any ops i W ∧ freeFor g.E ops ps W i listed = true := by
      rw [Bool.or_eq_true] at hk0
      rcases hk0 with hk0 | hk0
      · exact ⟨[], (fun j hj => by cases hj), hk0⟩
      · exact ⟨_, waitsGo_ok _ _ (fun j hj => by cases hj), hk0⟩
    simp only [freeFor, Bool.and_eq_true] at hk
    obtain ⟨hWl, hk⟩ := hk
    have hWl : ∀ j ∈ W, listed.getD j true = false := fun j hj => by
      have := List.all_eq_true.1 hWl j hj
      simpa using this
    have hmem : i ∈ Region.ready .any ops listed := by simpa using hc
    rw [hi] at hr
    have hom : o ∈ ops.toList := List.mem_of_getElem? (by simpa using hi : ops.toList[i]? = some o)
    have hd : ∀ d, o.dst = some d → d < a.tmps.size := fun d hd => by rw [hsz]; exact hall o hom d hd
    have hstep := guard_step h (fun o ho d hd => by rw [hsz]; exact hall o ho d hd) hd hκ
    have hkeep : ∀ j oj, ops[j]? = some oj → j ≠ i → listed.getD j true = false → j ∉ W → (∀ e ∈ oj.after, Region.binds .any e = true → e.on ≠ i) → o.apart ops oj = true ∧ ∀ b, bOp a o b → kOp g.E ops a oj b := fun j oj hj hji hun hjW hno => by
      refine ⟨Region.free_spec hi hf j oj hj hji hun hno, ?_⟩
      rw [List.all_eq_true] at hk
      have := hk j (List.mem_range.2 (Array.getElem?_eq_some_iff.1 hj).1)
      simp only [hj, hi, Bool.or_eq_true, beq_iff_eq, hji, false_or, hun, Bool.false_eq_true, List.contains_iff_mem, hjW, or_false] at this
      rcases this with (h1 | h1) | h1
      · obtain ⟨e, he, hb⟩ := Array.any_eq_true'.1 h1
        simp only [Bool.and_eq_true, beq_iff_eq] at hb
        exact absurd hb.2 (hno e he hb.1)
      · exact fun b _ => .inl h1
      · rcases h1 with h1 | h1
        · intro b hb
          rw [hb.1] at h1; cases h1
        intro b hb
        have hb := hb.2
        unfold sepOp at h1
        split at h1
        · rename_i e t ho
          split at h1
          · rename_i e' t' y hoj
            simp only [Bool.and_eq_true] at h1
            obtain ⟨⟨f1, f2⟩, f3⟩ := h1
            refine .inr ⟨e', t', y, hoj, f2, fun b' off' p' hp' => ?_⟩
            obtain ⟨off, p, hp⟩ := hb e t ho
            exact hsep t t' (by simpa using f3) b off p b' off' p' ((hfx t f1).symm.trans hp) ((hfx t' f2).symm.trans hp')
          · cases h1
        · cases h1
    have fin : ∀ v own' st', YieldsIf g.P ops (Keeps (bOp a o) w) o v a → Rel g own' st' (a.put o.dst v) w → κ' st' = some r → wpAnyK g.P g.E .any ops Q (fuel + 1) listed a w := fun v own' st' hy hrel hκ' =>
      wpAnyK_first hW hi (Region.noSelect_spec hs) (fun c a w hp => hQp c o hom _ a w hp) fuel listed a w hWl hkeep hmem hy (next own' st' _ w (.put hi a v) hrel (tmps_put_size.trans hsz) hκ')
    rcases hstep with ⟨hw, st1, h1, h2⟩ | ⟨hw, st1, h1, h2⟩
    · obtain ⟨v, own', st', k1, k2, k3⟩ := rdB_yields (op_rdB ok T h1 hd hr h2) hw
      exact fin v own' st' k1 k2 k3
    · exact fin undef own st1 (.inr ⟨hw, rfl⟩) h1 h2
theorem region_any {ops : Array Oper} {hn : Hint} {κ π : ST S → Option α} {r : α} {n : Nat} {Q : Exit → Act → World → Prop} {ps : List (Nat × Nat)} (ok : S.Ok) (T : TysOk g.P g.E) (hfs : ∀ f F, g.E.fs f = some F → FnOk g.P F f)
    (hpin : ∀ d, d < n → g.pin d = none) (hall : ∀ (o : Oper), o ∈ ops.toList → ∀ d, o.dst = some d → d < n) (hs : Region.noSelect ops = true) (hQp : ∀ c (o : Oper), o ∈ ops.toList → ∀ v a w, Q (.panic c) (a.put o.dst v) w → Q (.panic c) a w) {A : Act → Prop} (hPan : PanOk g π r Q A)
    (a0 : Act) (hA : ∀ a, Fix ops a0 a → A a) (hQ : ∀ own st a w, Fix ops a0 a → Rel g own st a w → κ st = some r → a.tmps.size = n → Q .normal a w) (hsep : SepAt ops ps a0) :
    ∀ (l : List Nat) (listed : Array Bool) (own : Nat → Option Own) (st : ST S) (a : Act) (w : World), Fix ops a0 a → okOrd g.E ops ps l listed = true → Rel g own st a w → a.tmps.size = n →
      opsK π g.E hn ops.toList (l.filterMap (ops.toList[·]?)) st κ = some r →
      wpAnyK g.P g.E .any ops Q l.length listed a w := by
  intro l
  induction l with
  | nil =>
    intro listed own st a w hfx hord h hsz hκ
    exact ⟨by simpa [okOrd] using hord, hQ own st a w hfx h hκ hsz⟩
  | cons i l ih =>
    intro listed own st a w hfx hord h hsz hκ
    simp only [okOrd, Bool.and_eq_true] at hord
    obtain ⟨hord1, hord2⟩ := hord
    have hmem : i ∈ Region.ready .any ops listed := by
      unfold stepOk at hord1
      split at hord1
      · rename_i j e; rw [e]; simpa using hord1
      · simp only [Bool.and_eq_true] at hord1; simpa using hord1.1.1.1
    obtain ⟨_, o, hi, _⟩ := mem_ready.1 hmem
    have hi' : ops.toList[i]? = some o := by simpa using hi
    rw [List.filterMap_cons, hi'] at hκ
    simp only [opsK] at hκ
    exact any_step ok T hfs hpin hall hs hQp hPan hsep hi hord1 hfx (hA a hfx) h hsz hκ (fun own' st' a' w' k0 k1 k2 k3 => ih _ own' st' a' w' (hfx.trans k0) hord2 k1 k2 k3)
theorem heads_some {ops : Array Oper} {hn : Hint} {κ π : ST S → Option α} {r : α} {st : ST S} {n : Nat} {listed : Array Bool} : ∀ (t : OT), brT g.E ops t n listed = true → treeK π g.E hn ops.toList t st κ = some r → ∀ j t', (j, t') ∈ t.heads →
    okT g.E ops t' (n - 1) (listed.setIfInBounds j true) = true ∧ ∃ o, ops[j]? = some o ∧ guardK π g.E hn ops.toList o st (fun st' => treeK π g.E hn ops.toList t' st' κ) = some r := by
  intro t
  induction t with
  | done => intro h; cases h
  | step i t ih =>
    intro h hk j t' hm
    simp only [OT.heads, List.mem_singleton, Prod.mk.injEq] at hm
    obtain ⟨rfl, rfl⟩ := hm
    refine ⟨h, ?_⟩
    simp only [treeK] at hk
    split at hk
    · rename_i o ho
      exact ⟨o, by simpa using ho, hk⟩
    · cases hk
  | both t u iht ihu =>
    intro h hk j t' hm
    simp only [brT, Bool.and_eq_true] at h
    simp only [treeK] at hk
    obtain ⟨k1, k2⟩ := meetK_some hk
    simp only [OT.heads, List.mem_append] at hm
    rcases hm with hm | hm
    · exact iht h.1 k1 j t' hm
    · exact ihu h.2 k2 j t' hm
theorem heads_size : ∀ (t : OT) (j : Nat) (t' : OT), (j, t') ∈ t.heads → OT.sz t' < OT.sz t := by
  intro t
  induction t with
  | done => intro j t' h; cases h
  | step i t ih =>
    intro j t' h
    simp only [OT.heads, List.mem_singleton, Prod.mk.injEq] at h
    obtain ⟨rfl, rfl⟩ := h
    simp [OT.sz]
  | both t u iht ihu =>
    intro j t' h
    simp only [OT.heads, List.mem_append] at h
    rcases h with h | h
    · have := iht j t' h; simp only [OT.sz]; omega
    · have := ihu j t' h; simp only [OT.sz]; omega
theorem region_tree {ops : Array Oper} {hn : Hint} {κ π : ST S → Option α} {r : α} {n : Nat} {Q : Exit → Act → World → Prop} (ok : S.Ok) (T : TysOk g.P g.E) (hfs : ∀ f F, g.E.fs f = some F → FnOk g.P F f)
    (hpin : ∀ d, d < n → g.pin d = none) (hall : ∀ (o : Oper), o ∈ ops.toList → ∀ d, o.dst = some d → d < n) (hs : Region.noSelect ops = true) (hQp : ∀ c (o : Oper), o ∈ ops.toList → ∀ v a w, Q (.panic c) (a.put o.dst v) w → Q (.panic c) a w) {A : Act → Prop} (hPan : PanOk g π r Q A)
    (a0 : Act) (hA : ∀ a, Fix ops a0 a → A a) (hQ : ∀ own st a w, Fix ops a0 a → Rel g own st a w → κ st = some r → a.tmps.size = n → Q .normal a w) :
    ∀ (z : Nat) (t : OT), OT.sz t ≤ z → ∀ (m : Nat) (listed : Array Bool) (own : Nat → Option Own) (st : ST S) (a : Act) (w : World), Fix ops a0 a → okT g.E ops t m listed = true → Rel g own st a w → a.tmps.size = n →
      treeK π g.E hn ops.toList t st κ = some r → wpAnyK g.P g.E .any ops Q m listed a w := by
  intro z
  induction z with
  | zero => intro t ht; cases t <;> simp [OT.sz] at ht
  | succ z ih =>
    intro t ht m listed own st a w hfx hok h hsz hκ
    cases t with
    | done =>
      simp only [okT, Bool.and_eq_true] at hok
      have := Nat.eq_of_beq_eq_true hok.1
      subst this
      exact ⟨by simpa using hok.2, hQ own st a w hfx h hκ hsz⟩
    | step i t =>
      simp only [okT, Bool.and_eq_true] at hok
      obtain ⟨⟨h1, h2⟩, h3⟩ := hok
      obtain ⟨m', rfl⟩ : ∃ m', m = m' + 1 := ⟨m - 1, by have := Nat.le_of_ble_eq_true h2; omega⟩
      simp only [treeK] at hκ
      split at hκ
      · rename_i o ho
        refine any_step (ps := []) (a0 := a) ok T hfs hpin hall hs hQp hPan (fun _ _ h => by cases h) (by simpa using ho) h1 (.refl _ _) (hA a hfx) h hsz hκ (fun own' st' a' w' k0 k1 k2 k3 => ?_)
        exact ih t (by simp only [OT.sz] at ht; omega) m' _ own' st' a' w' (hfx.trans k0) h3 k1 k2 k3
      · cases hκ
    | both t u =>
      have hb : brT g.E ops (.both t u) m listed = true := by
        simp only [okT, Bool.and_eq_true] at hok
        simp only [brT, Bool.and_eq_true]; exact ⟨hok.1.2, hok.2⟩
      simp only [okT, Bool.and_eq_true] at hok
      obtain ⟨⟨⟨⟨h2, hne⟩, hcov⟩, _⟩, _⟩ := hok
      obtain ⟨m', rfl⟩ : ∃ m', m = m' + 1 := ⟨m - 1, by have := Nat.le_of_ble_eq_true h2; omega⟩
      have hcov' : ∀ j ∈ Region.ready .any ops listed, ∃ t', (j, t') ∈ (OT.both t u).heads := fun j hj => by
        have := List.all_eq_true.1 hcov j hj
        obtain ⟨⟨j', t'⟩, hm, e⟩ := List.any_eq_true.1 this
        have : j' = j := by simpa using e
        subst this
        exact ⟨t', hm⟩
      refine ⟨fun h0 => (by rw [h0] at hne; cases hne), fun j hj => ?_⟩
      · obtain ⟨t', hm⟩ := hcov' j hj
        obtain ⟨hok', o, ho, hg⟩ := heads_some (hn := hn) (κ := κ) (r := r) (st := st) _ hb hκ j t' hm
        refine one_step ok T hfs hpin hPan hall ho (hA a hfx) h hsz hg (fun own' st' a' w' k0 k1 k2 k3 => ?_)
        exact ih t' (by have := heads_size _ j t' hm; omega) m' _ own' st' a' w' (hfx.trans k0) hok' k1 k2 k3
theorem region_list {ops : Array Oper} {hn : Hint} {κ π : ST S → Option α} {r : α} {n : Nat} {Q : Exit → Act → World → Prop} (ok : S.Ok) (T : TysOk g.P g.E) (hfs : ∀ f F, g.E.fs f = some F → FnOk g.P F f)
    (hpin : ∀ d, d < n → g.pin d = none) {A : Act → Prop} (hPan : PanOk g π r Q A) (hall : ∀ (o : Oper), o ∈ ops.toList → ∀ d, o.dst = some d → d < n)
    (a0 : Act) (hA : ∀ a, Fix ops a0 a → A a) (hQ : ∀ own st a w, Fix ops a0 a → Rel g own st a w → κ st = some r → a.tmps.size = n → Q .normal a w) :
    ∀ (l : List Nat) (own : Nat → Option Own) (st : ST S) (a : Act) (w : World), Fix ops a0 a → Rel g own st a w → a.tmps.size = n →
      opsK π g.E hn ops.toList (l.filterMap (ops.toList[·]?)) st κ = some r → wpOps g.P ops Q l a w := by
  intro l
  induction l with
  | nil => intro own st a w hfx h hsz hκ; exact hQ own st a w hfx h hκ hsz
  | cons i l ih =>
    intro own st a w hfx h hsz hκ
    simp only [wpOps]
    cases hi : ops[i]? with
    | none =>
      have hi' : ops.toList[i]? = none := by simpa using hi
      rw [List.filterMap_cons, hi'] at hκ
      exact ih own st a w hfx h hsz hκ
    | some o =>
      have hi' : ops.toList[i]? = some o := by simpa using hi
      rw [List.filterMap_cons, hi'] at hκ
      simp only [opsK] at hκ
      have hom : o ∈ ops.toList := List.mem_of_getElem? hi'
      have hd : ∀ d, o.dst = some d → d < a.tmps.size := fun d hd => by rw [hsz]; exact hall o hom d hd
      have hstep := guard_step h (fun o ho d hd => by rw [hsz]; exact hall o ho d hd) hd hκ
      rcases hstep with ⟨hw, st1, h1, h2⟩ | ⟨hw, st1, h1, h2⟩
      · simp only [hw, if_true]
        refine .inl (Oper.wp_mono ?_ (opwp_fix hi (op_do ok T hfs (by rw [hsz]; exact hpin) h1 hd h2 Q A hPan (hA a hfx))))
        rintro a' w' ⟨k0, own', st', k1, k2, k3, k4⟩
        exact ih own' st' a' w' (hfx.trans k0) k1 (k3.trans hsz) k2
      · simp only [hw, Bool.false_eq_true, if_false]
        exact ih own st1 _ w (hfx.trans (.put hi a _)) h1 (tmps_put_size.trans hsz) h2
end
end Go.Proofs.Ytdnkjfmneppkoaa.Vm
namespace Go.Proofs.Ytdnkjfmneppkoaa.Vm
open Go Go.RowKit
set_option linter.unusedVariables false
section
variable {S : Cx} {α : Type}
variable {g : Gl S} {own : Nat → Option Own} {st : ST S} {a : Act} {w : World}
theorem Rel.weaken (h : Rel g own st a w) {st' : ST S} (hl : ∀ i, st'.look i = .dead ∨ (st'.look i = st.look i ∧ ∀ r, (∃ p, st.look i = .ref r p ∨ st.look i = .addr r p ∨ ∃ f cs k, st.look i = .fn f cs ∧ Cap.m k ∈ cs ∧ r = .mem k) → st'.root r = st.root r))
    (hm : ∀ k c, st'.mems.lookup k = some c → st.mems.lookup k = some c) : Rel g own st' a w := by
  refine ⟨h.os, h.tape, h.output, h.size, h.block, h.fresh, fun i => ?_, fun k c hk => h.mems k c (hm k c hk), h.defs, h.pins⟩
  rcases hl i with e | ⟨e, hr⟩
  · rw [e]; trivial
  · rw [e]
    have hv := h.vals i
    generalize st.look i = A at *
    cases A with
    | dead => trivial
    | und => exact hv
    | v t m y => exact hv
    | tup t m y => exact hv
    | rp t y => exact hv
    | ref r p =>
      obtain ⟨l, cs, c, h1, h2⟩ := hv
      exact ⟨l, cs, c, Place_of h1 (hr r ⟨p, .inl rfl⟩) (fun _ _ => rfl), h2⟩
    | addr r p =>
      obtain ⟨b, off, cs, c, h1, h2⟩ := hv
      exact ⟨b, off, cs, c, Place_of h1 (hr r ⟨p, .inr (.inl rfl)⟩) (fun _ _ => rfl), h2⟩
    | fn f cs =>
      obtain ⟨vs, f1, f2⟩ := hv
      refine ⟨vs, f1, f2.mono fun c hcm v hc => ?_⟩
      cases c with
      | d t' y => exact hc
      | m k =>
        obtain ⟨b, off, cs1, c1, h1, h2⟩ := hc
        exact ⟨b, off, cs1, c1, Place_of h1 (hr _ ⟨[], .inr (.inr ⟨f, cs, k, rfl, hcm, rfl⟩)⟩) (fun _ _ => rfl), h2⟩
theorem lookup_map {β γ : Type} (f : β → γ) : ∀ (l : List (Nat × β)) (i : Nat), (l.map fun x => (x.1, f x.2)).lookup i = (l.lookup i).map f
  | [], _ => rfl
  | (k, b) :: l, i => by
    simp only [List.map_cons, List.lookup_cons]
    cases i == k
    · exact lookup_map f l i
    · rfl
theorem based_cases (f : Root → Bool) (x : AV S) : x.based f = .dead ∨ (x.based f = x ∧ ∀ r, (∃ p, x = .ref r p ∨ x = .addr r p ∨ ∃ g cs k, x = .fn g cs ∧ Cap.m k ∈ cs ∧ r = .mem k) → f r = true) := by
  cases x with
  | ref r p =>
    cases hf : f r
    · exact .inl (by simp only [AVal.based, hf])
    · refine .inr ⟨by simp only [AVal.based, hf], fun r' h => ?_⟩
      rcases h with ⟨p', h | h | ⟨g, cs, k, h, _⟩⟩ <;> cases h
      exact hf
  | addr r p =>
    cases hf : f r
    · exact .inl (by simp only [AVal.based, hf])
    · refine .inr ⟨by simp only [AVal.based, hf], fun r' h => ?_⟩
      rcases h with ⟨p', h | h | ⟨g, cs, k, h, _⟩⟩ <;> cases h
      exact hf
  | fn g cs =>
    cases hf : cs.all (Cap.okAt f)
    · exact .inl (by simp only [AVal.based, hf])
    · refine .inr ⟨by simp only [AVal.based, hf], fun r' h => ?_⟩
      rcases h with ⟨p', h | h | ⟨g, cs, k, h, h2, h3⟩⟩ <;> cases h
      subst h3
      exact List.all_eq_true.1 hf _ h2
  | _ => exact .inr ⟨rfl, fun r h => by rcases h with ⟨p, h | h | ⟨g, cs, k, h, _⟩⟩ <;> cases h⟩
theorem root_based {st' : ST S} {f : Root → Bool} {s : Nat} (h : st'.look s = (st.look s).based f) : st'.root (.slot s) = st.root (.slot s) := by
  simp only [St.root, h]
  cases e : st.look s with
  | v t m x => rfl
  | dead => rfl
  | und => rfl
  | tup t m x => rfl
  | rp t x => rfl
  | ref r p => cases hf : f r <;> simp only [AVal.based, hf]
  | addr r p => cases hf : f r <;> simp only [AVal.based, hf]
  | fn g cs => cases hf : cs.all (Cap.okAt f) <;> simp only [AVal.based, hf]
theorem Rel.clear (h : Rel g own st a w) : Rel g own st.clear a w := by
  have hlook : ∀ i, st.clear.look i = match st.vars.lookup i with | some x => x.based st.inVars | none => .dead := fun i => by
    have e : st.clear.vars.lookup i = (st.vars.lookup i).map (·.based st.inVars) := lookup_map _ _ _
    simp only [St.look, e]
    cases st.vars.lookup i <;> rfl
  have hst : ∀ i x, st.vars.lookup i = some x → st.look i = x := fun i x hx => by simp only [St.look, hx]
  refine h.weaken (fun i => ?_) (fun k c hk => hk)
  rw [hlook]
  cases hx : st.vars.lookup i with
  | none => exact .inl rfl
  | some x =>
    rcases based_cases st.inVars x with e | ⟨e, hr⟩
    · exact .inl e
    · refine .inr ⟨by rw [hst i x hx]; exact e, fun r hrp => ?_⟩
      rw [hst i x hx] at hrp
      have := hr r hrp
      cases r with
      | mem k => rfl
      | lim => cases this
      | slot s =>
        simp only [St.inVars] at this
        split at this
        · rename_i y hy
          exact root_based (f := st.inVars) (by rw [hlook, hy, hst s y hy])
        · cases this
theorem lookup_keys {β : Type} (f : Nat → β) : ∀ (l : List Nat) (i : Nat), (l.map fun i => (i, f i)).lookup i = if i ∈ l then some (f i) else none
  | [], _ => rfl
  | k :: l, i => by
    simp only [List.map_cons, List.lookup_cons]
    by_cases hk : i = k
    · subst hk; simp
    · have : (i == k) = false := by simpa using hk
      rw [this, lookup_keys f l i]
      simp [hk]
theorem lookup_fm {β : Type} (f : Nat → Option β) : ∀ (l : List Nat) (i : Nat) (c : β), (l.filterMap fun k => (f k).map (k, ·)).lookup i = some c → f i = some c
  | [], _, _, h => by cases h
  | k :: l, i, c, h => by
    rw [List.filterMap_cons] at h
    cases hf : f k with
    | none => rw [hf] at h; exact lookup_fm f l i c h
    | some b =>
      rw [hf] at h
      simp only [Option.map_some, List.lookup_cons] at h
      cases hk : i == k
      · rw [hk] at h; exact lookup_fm f l i c h
      · rw [hk] at h
        have : i = k := by simpa using hk
        cases h; subst this; exact hf
theorem lookup_fm' {β : Type} (f : Nat → Option β) : ∀ (l : List Nat) (i : Nat), i ∈ l → (l.filterMap fun k => (f k).map (k, ·)).lookup i = f i
  | [], _, h => by cases h
  | k :: l, i, h => by
    rw [List.filterMap_cons]
    by_cases hk : i = k
    · subst hk
      cases hf : f i with
      | none =>
        simp only [Option.map_none]
        cases hl : (l.filterMap fun k => (f k).map (k, ·)).lookup i with
        | none => rfl
        | some c => rw [lookup_fm f l i c hl] at hf; cases hf
      | some b => simp
    · have hb : (i == k) = false := by simpa using hk
      have hl : i ∈ l := by simpa [hk] using h
      cases hf : f k with
      | none => exact lookup_fm' f l i hl
      | some b =>
        simp only [Option.map_some, List.lookup_cons, hb]
        exact lookup_fm' f l i hl
theorem Rel.norm (h : Rel g own st a w) (c : List Nat × List Nat) : Rel g own (st.norm c) a w := by
  have hlook : ∀ i, (st.norm c).look i = if i ∈ c.1 then (st.look i).based (rootIn c) else .dead := fun i => by
    have e : (st.norm c).vars.lookup i = if i ∈ c.1 then some ((st.look i).based (rootIn c)) else none := lookup_keys _ _ _
    have e2 : (st.norm c).scr.lookup i = none := rfl
    simp only [St.look, e, e2]
    by_cases hi : i ∈ c.1 <;> simp [hi]
  refine h.weaken (fun i => ?_) (fun k c' hk => lookup_fm _ _ _ _ hk)
  rw [hlook]
  by_cases hi : i ∈ c.1
  · rw [if_pos hi]
    rcases based_cases (rootIn c) (st.look i) with e | ⟨e, hr⟩
    · exact .inl e
    · refine .inr ⟨e, fun r hrp => ?_⟩
      have := hr r hrp
      cases r with
      | lim => cases this
      | mem k =>
        have hk : k ∈ c.2 := by simpa [rootIn] using this
        exact lookup_fm' _ _ _ hk
      | slot s =>
        have hs : s ∈ c.1 := by simpa [rootIn] using this
        exact root_based (f := rootIn c) (by rw [hlook, if_pos hs])
  · rw [if_neg hi]; exact .inl rfl
theorem Rel.inn (h : Rel g own st a w) (hn : Hint) (c : Code) : Rel g own (hn.inn c st) a w := by
  unfold Hint.inn; split
  · exact h.norm _
  · exact h
theorem Rel.out (h : Rel g own st a w) (hn : Hint) (c : Code) : Rel g own (hn.out c st) a w := by
  unfold Hint.out; split
  · exact h.norm _
  · exact h
def ordOf (h : Hint) (id : Nat) (ops : Array Oper) : List Nat :=
  match h.ords.lookup id with
  | none => List.range ops.size
  | some l => l
def sepsOf (h : Hint) (id : Nat) : List (Nat × Nat) :=
  match h.ords.lookup id with
  | none => []
  | some _ => match h.seps.lookup id with
    | none => []
    | some ps => ps
theorem sepSt_ok {st : ST S} (h : Rel g own st a w) {ops : Array Oper} : ∀ ps, sepSt st ps = true → SepAt ops ps a := by
  intro ps
  induction ps with
  | nil => intro _ t t' ht; cases ht
  | cons q ps ih =>
    obtain ⟨q1, q2⟩ := q
    intro hs t t' ht
    simp only [sepSt] at hs
    split at hs
    · rename_i k e1
      split at hs
      · rename_i k' e2
        split at hs
        · cases hs
        · rename_i hk
          rcases List.mem_cons.1 ht with e | e
          · cases e
            have v1 := h.vals q1
            have v2 := h.vals q2
            rw [e1] at v1
            rw [e2] at v2
            intro b off p b' off' p' h1 h2
            obtain ⟨c1, o1, cs1, d1, hp1, hv1⟩ := v1
            obtain ⟨c2, o2, cs2, d2, hp2, hv2⟩ := v2
            rw [h1] at hv1
            rw [h2] at hv2
            obtain ⟨t1, m1, x1, l1, csr1, r1, r2, r3, r4, r5, r6⟩ := hp1
            obtain ⟨t2, m2, x2, l2, csr2, u1, u2, u3, u4, u5, u6⟩ := hp2
            simp only [nav_nil] at r5 u5
            obtain ⟨b1, eb1, cc1, z1, z2, z3, z4⟩ := r3
            obtain ⟨b2, eb2, cc2, y1, y2, y3, y4⟩ := u3
            have A1 : l1 = some (c1, o1) := (Prod.mk.inj (Option.some.inj r5)).1
            have A2 : l2 = some (c2, o2) := (Prod.mk.inj (Option.some.inj u5)).1
            rw [z1] at A1
            rw [y1] at A2
            have B1 := (Prod.mk.inj (Option.some.inj A1)).1
            have B2 := (Prod.mk.inj (Option.some.inj A2)).1
            injection hv1 with hv1
            injection hv2 with hv2
            have hv1 := Option.some.inj hv1
            have hv2 := Option.some.inj hv2
            injection hv1 with hv1
            injection hv2 with hv2
            rw [hv1, hv2, ← B1, ← B2]
            intro e
            rw [e] at z2
            rw [z2] at y2
            have := (Prod.mk.inj (Option.some.inj y2)).1
            injection this with this
            subst this
            simp at hk
          · exact ih hs t t' e
      · cases hs
    · cases hs
def codeOk (E : Env S) (h : Hint) (n : Nat) : Code → Bool
  | .region id ops draw => ops.toList.all (fun o => match o.dst with
      | some d => decide (d < n)
      | none => true) && Region.noSelect ops && match draw with
    | true => match h.trees.lookup id with
      | some t => okT E ops t ops.size (Array.replicate ops.size false)
      | none => okOrd E ops (sepsOf h id) (ordOf h id ops) (Array.replicate ops.size false) && (ordOf h id ops).length == ops.size
    | false => (h.ords.lookup id).isNone && (h.trees.lookup id).isNone
  | .seq a b => codeOk E h n a && codeOk E h n b
  | .cond _ a b => codeOk E h n a && codeOk E h n b
  | .block _ c => codeOk E h n c
  | .loop c => codeOk E h n c
  | _ => true
theorem range_take {β : Type} (l : List β) : ∀ n, n ≤ l.length → (List.range n).filterMap (l[·]?) = l.take n := by
  intro n
  induction n with
  | zero => intro _; simp
  | succ n ih =>
    intro h
    rw [List.range_succ, List.filterMap_append, ih (by omega), List.take_add_one]
    congr 1
theorem range_all {β : Type} (l : List β) : (List.range l.length).filterMap (l[·]?) = l := by
  rw [range_take l l.length (Nat.le_refl _), List.take_length]
theorem run_region {E : Env S} {h : Hint} {k id : Nat} {ops : Array Oper} {draw : Bool} {st : ST S} {κ : Exit → ST S → Option α} {r : α} (ht : h.trees.lookup id = none) (hr : run E h k (.region id ops draw) st κ = some r) :
    opsK (κ (.panic [])) E h ops.toList ((ordOf h id ops).filterMap (ops.toList[·]?)) st.clear (κ .normal) = some r ∧ sepSt st (sepsOf h id) = true := by
  simp only [run, ht] at hr
  unfold ordOf sepsOf
  split at hr
  · rename_i e
    rw [e]
    have := range_all ops.toList
    rw [Array.length_toList] at this
    simp only [this]
    exact ⟨hr, rfl⟩
  · rename_i l e
    rw [e]
    split at hr
    · rename_i e2; simp only [e2]; exact ⟨hr, rfl⟩
    · rename_i ps e2
      simp only [e2]
      split at hr
      · rename_i e3; exact ⟨hr, e3⟩
      · cases hr
def fixC : Code → Nat → Bool
  | .region _ ops _, t => fixedT ops t
  | .seq a b, t => fixC a t && fixC b t
  | .cond _ a b, t => fixC a t && fixC b t
  | .block _ c, t => fixC c t
  | .loop c, t => fixC c t
  | _, _ => true
def QF (g : Gl S) (n : Nat) (κ : Exit → ST S → Option α) (r : α) (I : Nat → Bool) (a0 : Act) : Exit → Act → World → Prop := fun e a w =>
  match e with
  | .panic c => c = [{ v := .iface g.E.pt (.agg #[]), recovered := false }] ∧ a.defers = g.defs ∧ (∃ a1 own st, Rel g own st a1 w ∧ κ (.panic []) st = some r ∧ ∀ t, I t = true → a1.tmps.getD t undef = a0.tmps.getD t undef) ∧ ∀ t, I t = true → a.tmps.getD t undef = a0.tmps.getD t undef
  | e => QV g n κ r e a w ∧ ∀ t, I t = true → a.tmps.getD t undef = a0.tmps.getD t undef
theorem run_soundF {hn : Hint} {k n : Nat} (ok : S.Ok) (T : TysOk g.P g.E) (hfs : ∀ f F, g.E.fs f = some F → FnOk g.P F f) (hmo : g.P.follows .mixedOrders = true) (hpin : ∀ d, d < n → g.pin d = none) {I : Nat → Bool} {a0 : Act} :
    ∀ (c : Code) (st : ST S) (κ : Exit → ST S → Option α) (r : α) (own : Nat → Option Own) (a : Act) (w : World), codeOk g.E hn n c = true → (∀ t, I t = true → fixC c t = true) → (∀ t, I t = true → a.tmps.getD t undef = a0.tmps.getD t undef) → Rel g own st a w → a.tmps.size = n →
      run g.E hn k c st κ = some r → c.wp g.P (QF g n κ r I a0) a w := by
  intro c
  induction c with
  | skip => intro st κ r own a w _ hI ha h hsz hr; exact wp_skip ⟨⟨own, st, h, hr, hsz⟩, ha⟩
  | region id ops draw =>
    intro st κ r own a w hc hI ha h hsz hr
    simp only [codeOk, Bool.and_eq_true] at hc
    obtain ⟨⟨hc1, hc2⟩, hc3⟩ := hc
    have hall : ∀ (o : Oper), o ∈ ops.toList → ∀ d, o.dst = some d → d < n := fun o ho d hd => by
      have := List.all_eq_true.1 hc1 o ho
      rw [hd] at this
      simpa using this
    have hPn : PanOk g (κ (.panic [])) r (QF g n κ r I a0) (fun a => ∀ t, I t = true → a.tmps.getD t undef = a0.tmps.getD t undef) := fun own st a1 a w hA1 hA hdf h1 h2 => ⟨rfl, hdf, ⟨a1, own, st, h1, h2, hA1⟩, hA⟩
    have hAf : ∀ a1, Fix ops a a1 → ∀ t, I t = true → a1.tmps.getD t undef = a0.tmps.getD t undef := fun a1 hf t ht => (hf t (hI t ht)).trans (ha t ht)
    have hPq : ∀ (c : List PanicEntry) (o : Oper), o ∈ ops.toList → ∀ v a w, QF g n κ r I a0 (.panic c) (a.put o.dst v) w → QF g n κ r I a0 (.panic c) a w := fun c o ho v a w hp => ⟨hp.1, put_defers.symm.trans hp.2.1, hp.2.2.1, fun t ht => by
      obtain ⟨i, hi⟩ := List.mem_iff_getElem?.1 ho
      exact (Fix.put (i := i) (by simpa using hi) a v t (hI t ht)).symm.trans (hp.2.2.2 t ht)⟩
    have hQ : ∀ own st a' w, Fix ops a a' → Rel g own st a' w → κ .normal st = some r → a'.tmps.size = n → QF g n κ r I a0 .normal a' w := fun own st a' w hf h1 h2 h3 => ⟨⟨own, st, h1, h2, h3⟩, fun t ht => (hf t (hI t ht)).trans (ha t ht)⟩
    cases draw with
    | true =>
      refine wp_region_any hmo ?_
      simp only at hc3
      split at hc3
      · rename_i t ht
        simp only [run, ht] at hr
        exact wpAny_of_K _ _ _ _ (region_tree ok T hfs hpin hall hc2 (Q := QF g n κ r I a0) hPq hPn a hAf hQ (OT.sz t) t (Nat.le_refl _) ops.size (Array.replicate ops.size false) own st.clear a { w with drawn := w.drawn + 1 } (.refl _ _) hc3 (h.clear.keep ⟨rfl, rfl, rfl, Nat.le_refl _, fun _ _ => rfl⟩) hsz hr)
      rename_i ht
      obtain ⟨hr2, hsp⟩ := run_region ht hr
      simp only [Bool.and_eq_true, beq_iff_eq] at hc3
      have := region_any ok T hfs hpin hall hc2 (Q := QF g n κ r I a0) hPq hPn a hAf hQ (sepSt_ok (ops := ops) h _ hsp) (ordOf hn id ops) (Array.replicate ops.size false) own st.clear a { w with drawn := w.drawn + 1 } (.refl _ _) hc3.1 (h.clear.keep ⟨rfl, rfl, rfl, Nat.le_refl _, fun _ _ => rfl⟩) hsz hr2
      rw [hc3.2] at this
      exact wpAny_of_K _ _ _ _ this
    | false =>
      refine wp_region ?_
      simp only [Bool.and_eq_true] at hc3
      have ht : hn.trees.lookup id = none := by
        cases e : hn.trees.lookup id with
        | none => rfl
        | some l => rw [e] at hc3; cases hc3.2
      obtain ⟨hr2, hsp⟩ := run_region ht hr
      have hord : ordOf hn id ops = List.range ops.size := by
        unfold ordOf
        cases e : hn.ords.lookup id with
        | none => rfl
        | some l => rw [e] at hc3; cases hc3.1
      rw [hord] at hr2
      exact region_list ok T hfs hpin hPn hall a hAf hQ (List.range ops.size) own st.clear a w (.refl _ _) h.clear hsz hr2
  | seq x y ihx ihy =>
    intro st κ r own a w hc hI ha h hsz hr
    simp only [codeOk, Bool.and_eq_true] at hc
    simp only [run] at hr
    have hI1 : ∀ t, I t = true → fixC x t = true ∧ fixC y t = true := fun t ht => by have := hI t ht; simpa only [fixC, Bool.and_eq_true] using this
    refine wp_seq (wp_mono (ihx st _ r own a w hc.1 (fun t ht => (hI1 t ht).1) ha h hsz hr) ?_)
    intro e a' w' hq
    cases e with
    | normal =>
      obtain ⟨⟨own', st', h1, h2, h3⟩, h4⟩ := hq
      refine wp_mono (ihy _ _ r own' a' w' hc.2 (fun t ht => (hI1 t ht).2) h4 (h1.inn hn y) h3 h2) ?_
      intro e a'' w'' hq
      cases e with
      | normal => obtain ⟨⟨own'', st'', g1, g2, g3⟩, g4⟩ := hq; exact ⟨⟨own'', _, g1.out hn y, g2, g3⟩, g4⟩
      | exit i => exact hq
      | ret => exact hq
      | goto i => exact hq
      | panic c => exact hq
      | outgrown => exact hq
    | exit i => exact hq
    | ret => exact hq
    | goto i => exact hq
    | panic c => exact hq
    | outgrown => exact hq
  | cond c x y ihx ihy =>
    intro st κ r own a w hc hI ha h hsz hr
    simp only [codeOk, Bool.and_eq_true] at hc
    simp only [run] at hr
    split at hr
    · rename_i b hb
      have hv := bool_ok ok g.E h hb
      have hr := ask_some hr
      cases b with
      | true => exact wp_cond_true hv (ihx st κ r own a w hc.1 (fun t ht => by have := hI t ht; simp only [fixC, Bool.and_eq_true] at this; exact this.1) ha h hsz hr)
      | false => exact wp_cond_false hv (ihy st κ r own a w hc.2 (fun t ht => by have := hI t ht; simp only [fixC, Bool.and_eq_true] at this; exact this.2) ha h hsz hr)
    · cases hr
  | block id c ih =>
    intro st κ r own a w hc hI ha h hsz hr
    simp only [run] at hr
    refine wp_block (wp_mono (ih st _ r own a w hc hI ha h hsz hr) ?_)
    intro e a' w' hq
    cases e with
    | exit i =>
      obtain ⟨⟨own', st', h1, h2, h3⟩, h4⟩ := hq
      simp only [blockK] at h2
      simp only [Exit.inBlock]
      by_cases hi : i = id
      · subst hi
        simp only [beq_self_eq_true] at h2
        rw [if_pos rfl]
        exact ⟨⟨own', st', h1, h2, h3⟩, h4⟩
      · have : (i == id) = false := by simpa using hi
        rw [this] at h2
        rw [if_neg hi]
        exact ⟨⟨own', st', h1, h2, h3⟩, h4⟩
    | normal => exact hq
    | ret => exact hq
    | goto i => exact hq
    | panic c => exact hq
    | outgrown => exact hq
  | loop c ih =>
    intro st κ r own a w hc hI ha h hsz hr
    simp only [run] at hr
    have key : ∀ (m : Nat) (st : ST S) (own : Nat → Option Own) (a : Act) (w : World), (∀ t, I t = true → a.tmps.getD t undef = a0.tmps.getD t undef) → Rel g own st a w → a.tmps.size = n → loopK (run g.E hn k c) (hn.inn c) κ m st = some r → Code.rounds g.P c (QF g n κ r I a0) m a w := by
      intro m
      induction m with
      | zero => intro st own a w ha h hsz hr; cases hr
      | succ m ihm =>
        intro st own a w ha h hsz hr
        simp only [loopK] at hr
        rw [rounds_succ]
        refine wp_mono (ih st _ r own a w hc hI ha h hsz hr) ?_
        intro e a' w' hq
        cases e with
        | normal =>
          obtain ⟨⟨own', st', h1, h2, h3⟩, h4⟩ := hq
          exact ihm _ own' a' w' h4 (h1.inn hn c) h3 h2
        | exit i => exact hq
        | ret => exact hq
        | goto i => exact hq
        | panic c => exact hq
        | outgrown => exact hq
    exact wp_loop_rounds k (key k _ own a w ha (h.inn hn c) hsz hr)
  | exit id =>
    intro st κ r own a w hc hI ha h hsz hr
    simp only [run] at hr
    refine wp_exit ?_
    split at hr
    · exact ⟨⟨own, _, h.norm _, hr, hsz⟩, ha⟩
    · exact ⟨⟨own, st, h, hr, hsz⟩, ha⟩
  | ret =>
    intro st κ r own a w hc hI ha h hsz hr
    simp only [run] at hr
    exact wp_ret ⟨⟨own, _, h.norm _, hr, hsz⟩, ha⟩
  | _ => intros; rename_i hr; simp only [run] at hr; cases hr
theorem run_sound {hn : Hint} {k n : Nat} (ok : S.Ok) (T : TysOk g.P g.E) (hfs : ∀ f F, g.E.fs f = some F → FnOk g.P F f) (hmo : g.P.follows .mixedOrders = true) (hpin : ∀ d, d < n → g.pin d = none) :
    ∀ (c : Code) (st : ST S) (κ : Exit → ST S → Option α) (r : α) (own : Nat → Option Own) (a : Act) (w : World), codeOk g.E hn n c = true → Rel g own st a w → a.tmps.size = n →
      run g.E hn k c st κ = some r → c.wp g.P (QV g n κ r) a w := fun c st κ r own a w hc h hsz hr =>
  wp_mono (run_soundF (I := fun _ => false) (a0 := a) ok T hfs hmo hpin c st κ r own a w hc (fun _ h => by cases h) (fun _ h => by cases h) h hsz hr) fun e a w hq => by
    cases e with
    | panic c => obtain ⟨h1, h2, ⟨a1, own, st, h3, h4, _⟩, _⟩ := hq; exact ⟨h1, h2, a1, own, st, h3, h4⟩
    | _ => exact hq.1
end
end Go.Proofs.Ytdnkjfmneppkoaa.Vm
namespace Go.Proofs.Ytdnkjfmneppkoaa.Vm
open Go Go.RowKit
set_option linter.unusedVariables false
section
variable {S : Cx} {α : Type}
variable {g : Gl S} {own : Nat → Option Own} {st : ST S} {a : Act} {w : World}
def RvRun (P : Program) (tmps : Array Value) (w : World) : ResultVar → Value → Prop
  | .tmp i, v => v = tmps.getD i undef
  | .cell i t, v => (do loadVar t (← asAddr (tmps.getD i undef)) : Sem Value).run P w = .ok v w
theorem resOne0_ok (ok : S.Ok) (T : TysOk g.P g.E) (h : Rel g own st a w) {rv : ResultVar} {t : Ty} {m : Mode} {x : S.den t} {st' : ST S} (hr : resOne0 g.E rv t m st = some (x, st')) :
    ∃ v own' cs, RvRun g.P a.tmps w rv v ∧ Rel g own' st' a w ∧ Lasts own own' ∧ VS t v cs ∧ S.OW w own' (g.Z own' w) .lim t m [] cs x := by
  unfold resOne0 at hr
  split at hr
  · rename_i i
    split at hr
    · split at hr
      · rename_i c st1 hc
        split at hr
        · rename_i y hy
          cases hr
          obtain ⟨own', cs, h1, h2, h3, h4, h5⟩ := frzR_ok ok g.E h hc
          obtain ⟨ht, rfl⟩ := cast_some hy
          obtain ⟨ct, cm, cx⟩ := c
          simp only at ht h2 h4
          subst ht
          exact ⟨_, own', cs, rfl, h1, h5, h2, OW_ro.2 h4⟩
        · cases hr
      · cases hr
    · split at hr
      · rename_i c st1 hc
        split at hr
        · rename_i hm _
          split at hr
          · rename_i y hy
            cases hr
            obtain ⟨own', cs, h1, h2, h3, h4, h5⟩ := take_ok ok g.E h hc []
            obtain ⟨ht, rfl⟩ := cast_some hy
            obtain ⟨ct, cm, cx⟩ := c
            simp only at ht hm h2 h3
            subst ht
            subst hm
            exact ⟨_, own', cs, rfl, h1, h4, h2, h3⟩
          · cases hr
        · cases hr
      · cases hr
  · rename_i i ty
    split at hr
    · rename_i r p hl
      split at hr
      · rename_i t' m' y hat
        split at hr
        · rename_i hb
          simp only [Bool.and_eq_true] at hb
          split at hr
          · rename_i st1 hs
            split at hr
            · rename_i z hz
              cases hr
              have hv := h.vals i
              rw [hl] at hv
              obtain ⟨b, off, cs, c, hP, hv1⟩ := hv
              have := at_place hP hat
              subst this
              obtain ⟨own', h1, h2, h3⟩ := place_frz ok h hP hb.1 hs
              obtain ⟨ht, rfl⟩ := cast_some hz
              subst ht
              have tf := T _ _ (Env.is_lookup hb.2)
              obtain ⟨hl1, hc1⟩ := hP.cells ok h
              have hc := hc1 b off rfl
              have hload := run_loadAt tf hc
              refine ⟨valOf t' cs, own', cs, ?_, h1, h3, VS_cells hl1 (und_ne tf).1 (und_ne tf).2, OW_ro.2 h2⟩
              simp only [RvRun, hv1]
              exact hload
            · cases hr
          · cases hr
        · cases hr
      · cases hr
    · cases hr
theorem resOne_ro {E : Env S} {rv : ResultVar} {t : Ty} {st : ST S} : resOne E rv t .ro st = resOne0 E rv t .ro st := by cases t <;> rfl
theorem resOne_ok (ok : S.Ok) (T : TysOk g.P g.E) (h : Rel g own st a w) {rv : ResultVar} {t : Ty} {m : Mode} {x : S.den t} {st' : ST S} (hr : resOne g.E rv t m st = some (x, st')) :
    ∃ v own', RvRun g.P a.tmps w rv v ∧ Rel g own' st' a w ∧ Res1 S w (g.Z own' w) own' t m v x := by
  have gen : resOne0 g.E rv t m st = some (x, st') → ∃ v own', RvRun g.P a.tmps w rv v ∧ Rel g own' st' a w ∧ Res1 S w (g.Z own' w) own' t m v x := fun hr => by
    obtain ⟨v, own', cs, h0, h1, h2, h3, h4⟩ := resOne0_ok ok T h hr
    exact ⟨v, own', h0, h1, .of ⟨cs, h3, h4⟩⟩
  cases t with
  | box t => cases m with
    | own m =>
      cases rv with
      | cell _ _ => cases hr
      | tmp i =>
        have hr : resFresh i t m st = some (x, st') := hr
        unfold resFresh at hr
        split at hr
        · rename_i r p hl
          split at hr
          · rename_i k
            split at hr
            · rename_i c _ hk
              split at hr
              · rename_i hm _
                split at hr
                · rename_i y hy
                  cases hr
                  obtain ⟨ht, rfl⟩ := cast_some hy
                  obtain ⟨ct, cm, cx⟩ := c
                  simp only at ht hm
                  subst ht
                  subst hm
                  have hv := h.vals i
                  rw [hl] at hv
                  obtain ⟨b, off, cs', c', hp, hval⟩ := hv
                  obtain ⟨t0, m0, x0, l0, cs0, h1, h2, h3, h4, h5, h6⟩ := hp
                  obtain ⟨b0, e0, cl, f1, f2, f3, f4⟩ := h3
                  rw [nav_nil] at h5
                  have e5 := congrArg Prod.fst (Option.some.inj h5)
                  rw [f1] at e5
                  cases e5
                  obtain ⟨b1, e1, cells, g1, g2, g3, g4⟩ := h.mems k _ hk
                  have hbb := g4 b f2
                  subst hbb
                  refine ⟨_, limmem own k, rfl, h.limLess k, b, e1, cells, hval, limmem_at g1, g2, ?_⟩
                  exact OW_frame (fun b' hb => ⟨hb.1, hb.2.1, limmem_none hb.2.2⟩) (fun _ _ => rfl) _ _ _ _ _ _ (fun b' q hb => ⟨limmem_at hb, rfl⟩) g3
                · cases hr
              · cases hr
            · cases hr
          · cases hr
        · cases hr
    | _ => exact gen hr
  | _ => exact gen hr
theorem TupR_last {w : World} {Z : Nat → Prop} {t : Ty} {x : S.den t} {v : Value} {cs : List Value} (hn : notPair t = true) (h1 : VS t v cs) (h2 : S.R w Z t cs x) : TupR w Z t x [v] := by
  cases t <;> first | exact ⟨cs, h1, h2⟩ | cases hn
inductive RvAll (P : Program) (tmps : Array Value) (w : World) : List ResultVar → List Value → Prop
  | nil : RvAll P tmps w [] []
  | cons {r : ResultVar} {v : Value} {rs : List ResultVar} {vs : List Value} : RvRun P tmps w r v → RvAll P tmps w rs vs → RvAll P tmps w (r :: rs) (v :: vs)
theorem resMany_ok (ok : S.Ok) (T : TysOk g.P g.E) : ∀ (rs : List ResultVar) (t : Ty) (x : S.den t) (own : Nat → Option Own) (st st' : ST S), Rel g own st a w → resMany g.E rs t st = some (x, st') →
    ∃ own' vs, Rel g own' st' a w ∧ Lasts own own' ∧ RvAll g.P a.tmps w rs vs ∧ TupR w (g.Z own' w) t x vs
  | [], t, x, own, st, st', h, hr => by cases t <;> cases hr
  | [rv], t, x, own, st, st', h, hr => by
    have hr' : (match notPair t with | true => resOne g.E rv t .ro st | false => none) = some (x, st') := by cases t <;> exact hr
    split at hr'
    · rename_i hn
      rw [resOne_ro] at hr'
      obtain ⟨v, own', cs, h0, h1, h2, h3, h4⟩ := resOne0_ok ok T h hr'
      exact ⟨own', [v], h1, h2, .cons h0 .nil, TupR_last hn h3 (OW_ro.1 h4)⟩
    · cases hr'
  | rv :: s :: rs, t, x, own, st, st', h, hr => by
    cases t with
    | pair p q =>
      simp only [resMany] at hr
      split at hr
      · rename_i y st1 h1
        split at hr
        · rename_i z st2 h2
          simp only [Option.some.injEq] at hr
          obtain ⟨rfl, rfl⟩ := hr
          rw [resOne_ro] at h1
          obtain ⟨v, own1, cs, k0, k1, k2, k3, k4⟩ := resOne0_ok ok T h h1
          obtain ⟨own2, vs, j1, j2, j3, j4⟩ := resMany_ok ok T (s :: rs) q z own1 st1 _ k1 h2
          exact ⟨own2, v :: vs, j1, k2.trans j2, .cons k0 j3, ⟨cs, k3, (OW_ro.1 k4).frame (fun b hb => j2.Z hb) (fun _ _ => rfl)⟩, j4⟩
        · cases hr
      · cases hr
    | _ => cases hr
theorem mapM_rvs {P : Program} {w : World} (tmps : Array Value) (f : ResultVar → Sem Value) (hf : ∀ t, f (.tmp t) = pure (tmps.getD t undef)) (hf2 : ∀ a t, f (.cell a t) = (do loadVar t (← asAddr (tmps.getD a undef)))) : ∀ (rs : List ResultVar) (vs : List Value), RvAll P tmps w rs vs →
    (rs.mapM f).run P w = .ok vs w := by
  intro rs vs h
  induction h with
  | nil => rfl
  | @cons r v rs vs h1 h2 ih =>
    rw [List.mapM_cons]
    have hr : (f r).run P w = .ok v w := by
      cases r with
      | tmp i => rw [hf]; cases h1; rfl
      | cell i t => rw [hf2]; exact h1
    simp only [Sem.run_bind, hr, Result.andThen_ok, ih]
    rfl
def packV : List Value → Value
  | [v] => v
  | vs => .tuple vs.toArray
theorem run_results {P : Program} {fn : Func} {tmps : Array Value} {w : World} {vs : List Value} (h : RvAll P tmps w fn.results.toList vs) :
    (results fn tmps).run P w = .ok (packV vs) w := by
  have key : ∀ f : ResultVar → Sem Value, (∀ t, f (.tmp t) = pure (tmps.getD t undef)) → (∀ a t, f (.cell a t) = (do loadVar t (← asAddr (tmps.getD a undef)))) →
      (do let vs ← List.toArray <$> fn.results.toList.mapM f; pure (if h : vs.size = 1 then vs[0] else .tuple vs) : Sem Value).run P w =
        .ok (packV vs) w := fun f hf hf2 => by
    have := mapM_rvs (P := P) (w := w) tmps f hf hf2 fn.results.toList vs h
    simp only [Sem.run_bind, Sem.run_map, this, Result.andThen_ok]
    match vs with
    | [] => rfl
    | [v] => rfl
    | u :: v :: l => rfl
  unfold results
  rw [Array.mapM_eq_mapM_toList]
  exact key _ (fun t => rfl) (fun a t => rfl)
theorem resAll_ok (ok : S.Ok) (T : TysOk g.P g.E) {F : FSpec S.toNm} {fn : Func} {x : S.den F.rt} {st' : ST S} (h : Rel g own st a w) (hnr : F.nres = fn.results.toList.length)
    (hr : resAll g.E fn.results.toList F.rt F.rm st = some (x, st')) : ∃ own' v, Rel g own' st' a w ∧ (results fn a.tmps).run g.P w = .ok v w ∧ ResR w (g.Z own' w) own' F v x := by
  generalize hrs : fn.results.toList = rs at *
  unfold resAll at hr
  split at hr
  · cases hr
    refine ⟨own, _, h, run_results (by rw [hrs]; exact .nil), ?_⟩
    unfold ResR
    rw [hnr]
    trivial
  · rename_i rv
    obtain ⟨v, own', h0, h1, h2⟩ := resOne_ok ok T h hr
    refine ⟨own', v, h1, run_results (by rw [hrs]; exact .cons h0 .nil), ?_⟩
    unfold ResR
    rw [hnr]
    exact h2
  · rename_i rs' hne1 hne2
    obtain ⟨own', vs, h1, h2, h3, h4⟩ := resMany_ok ok T rs F.rt x own st st' h hr
    refine ⟨own', _, h1, run_results (by rw [hrs]; exact h3), ?_⟩
    cases h3 with
    | nil => exact absurd rfl hne1
    | @cons r0 v0 rs0 vs0 c1 c2 =>
      cases c2 with
      | nil => exact absurd rfl (hne2 _)
      | @cons r1 v1 rs1 vs1 c3 c4 =>
        unfold ResR
        rw [hnr]
        exact ⟨_, rfl, by simpa using h4⟩
theorem memAll_ok {w : World} : ∀ (ps : List PK) (k : Nat) (vs : List Value) (x0 : S.den (packTy (argT ps))) (w0 : World) (Z0 : Nat → Prop) (own0 : Nat → Option Own) (y : S.den (packTy (outT (outs ps)))),
    ArgsR S w0 Z0 own0 k ps vs x0 → Rel g own st a w → (∀ i v, (i, v) ∈ ioArgs k ps vs → ∃ b, v = .pointer (some ⟨b, 0, none⟩) ∧ g.pin i = some b) →
    memAll st (ioKs k ps) (outs ps) = some y → OutsR S w (g.Z own w) own (ioArgs k ps vs) (outs ps) y
  | [], k, [], x0, w0, Z0, own0, y, hA, h, hp, hy => trivial
  | [], k, _ :: _, x0, w0, Z0, own0, y, hA, h, hp, hy => hA.elim
  | _ :: _, k, [], x0, w0, Z0, own0, y, hA, h, hp, hy => hA.elim
  | .val t :: ps, k, v :: vs, x0, w0, Z0, own0, y, hA, h, hp, hy => memAll_ok ps (k + 1) vs x0.2 w0 Z0 own0 y hA.2 h hp hy
  | .fn _ _ :: ps, k, v :: vs, x0, w0, Z0, own0, y, hA, h, hp, hy => memAll_ok ps (k + 1) vs x0.2 w0 Z0 own0 y hA.2 h hp hy
  | .own _ _ :: ps, k, v :: vs, x0, w0, Z0, own0, y, hA, h, hp, hy => memAll_ok ps (k + 1) vs x0.2 w0 Z0 own0 y hA.2 h hp hy
  | .io t m :: ps, k, v :: vs, x0, w0, Z0, own0, y, hA, h, hp, hy => by
    simp only [ioKs, outs, memAll] at hy
    split at hy
    · rename_i u z e1 e2
      cases hy
      refine ⟨?_, memAll_ok ps (k + 1) vs x0.2 w0 Z0 own0 z hA.2 h (fun i v hi => hp i v (List.mem_cons_of_mem _ hi)) e2⟩
      unfold memOne at e1
      split at e1
      · rename_i c hc
        split at e1
        · rename_i hm _
          obtain ⟨ht, rfl⟩ := cast_some e1
          obtain ⟨b, e, cells, g1, g2, g3, g4⟩ := h.mems k c hc
          obtain ⟨bp, hv, hpin⟩ := hp k v (List.mem_cons_self ..)
          have := h.pins k bp b hpin g1
          subst this
          obtain ⟨ct, cm, cx⟩ := c
          simp only at ht hm g3
          subst ht
          subst hm
          exact ⟨b, e, cells, hv, g1, g2, g3, g4⟩
        · cases e1
      · cases e1
    · cases hy
theorem inM_lookup : ∀ (ps : List PK) (k : Nat) (x : S.den (packTy (argT ps))) (j : Nat), j < k → (inM k ps x).lookup j = none
  | [], _, _, _, _ => rfl
  | .val t :: ps, k, x, j, h => inM_lookup ps (k + 1) x.2 j (by omega)
  | .fn _ _ :: ps, k, x, j, h => inM_lookup ps (k + 1) x.2 j (by omega)
  | .own _ _ :: ps, k, x, j, h => inM_lookup ps (k + 1) x.2 j (by omega)
  | .io t m :: ps, k, x, j, h => by
    have : (j == k) = false := by simp; omega
    simp only [inM, List.lookup_cons, this]
    exact inM_lookup ps (k + 1) x.2 j (by omega)
theorem inM_up {ps : List PK} {p : PK} {k : Nat} {x : S.den (packTy (argT (p :: ps)))} {j : Nat} {c : MV S.toNm} (h : (inM (k + 1) ps x.2).lookup j = some c) : (inM k (p :: ps) x).lookup j = some c := by
  cases p with
  | val t => exact h
  | fn f n => exact h
  | own t m => exact h
  | io t m =>
    have : (j == k) = false := by
      simp only [beq_eq_false_iff_ne]
      rintro rfl
      rw [inM_lookup ps (j + 1) x.2 j (by omega)] at h
      cases h
    simp only [inM, List.lookup_cons, this]
    exact h
def ownSlots : Nat → (i s : Nat) → List PK → List (Nat × Nat)
  | _, _, _, [] => []
  | k, i, s + 1, _ :: ps => ownSlots (k + 1) i s ps
  | k, i, 0, .val _ :: ps => ownSlots (k + 1) (i + 1) 0 ps
  | k, i, 0, .io _ _ :: ps => ownSlots (k + 1) (i + 1) 0 ps
  | k, i, 0, .fn _ n :: ps => ownSlots (k + 1) (i + 1) n ps
  | k, i, 0, .own _ _ :: ps => (k, i) :: ownSlots (k + 1) (i + 1) 0 ps
theorem ownSlots_ge : ∀ (ps : List PK) (k i s k' j : Nat), (k', j) ∈ ownSlots k i s ps → k ≤ k'
  | [], _, _, _, _, _, h => by cases h
  | p :: ps, k, i, s + 1, k', j, h => by
    have h : (k', j) ∈ ownSlots (k + 1) i s ps := by cases p <;> exact h
    have := ownSlots_ge ps (k + 1) i s k' j h; omega
  | .val _ :: ps, k, i, 0, k', j, h => by have := ownSlots_ge ps (k + 1) (i + 1) 0 k' j h; omega
  | .io _ _ :: ps, k, i, 0, k', j, h => by have := ownSlots_ge ps (k + 1) (i + 1) 0 k' j h; omega
  | .fn _ n :: ps, k, i, 0, k', j, h => by have := ownSlots_ge ps (k + 1) (i + 1) n k' j h; omega
  | .own _ _ :: ps, k, i, 0, k', j, h => by
    rcases List.mem_cons.1 h with e | h
    · cases e; exact Nat.le_refl _
    · have := ownSlots_ge ps (k + 1) (i + 1) 0 k' j h; omega
theorem ownSlots_find : ∀ (ps : List PK) (k i s k' j : Nat), (k', j) ∈ ownSlots k i s ps → (ownSlots k i s ps).lookup k' = some j
  | [], _, _, _, _, _, h => by cases h
  | p :: ps, k, i, s + 1, k', j, h => by
    have e : ownSlots k i (s + 1) (p :: ps) = ownSlots (k + 1) i s ps := by cases p <;> rfl
    rw [e] at h ⊢
    exact ownSlots_find ps (k + 1) i s k' j h
  | .val _ :: ps, k, i, 0, k', j, h => ownSlots_find ps (k + 1) (i + 1) 0 k' j h
  | .io _ _ :: ps, k, i, 0, k', j, h => ownSlots_find ps (k + 1) (i + 1) 0 k' j h
  | .fn _ n :: ps, k, i, 0, k', j, h => ownSlots_find ps (k + 1) (i + 1) n k' j h
  | .own _ _ :: ps, k, i, 0, k', j, h => by
    simp only [ownSlots, List.lookup_cons]
    rcases List.mem_cons.1 h with e | h
    · cases e; simp
    · have := ownSlots_ge ps (k + 1) (i + 1) 0 k' j h
      have hk : (k' == k) = false := by simp; omega
      rw [hk]
      exact ownSlots_find ps (k + 1) (i + 1) 0 k' j h
theorem ownSlots_apart : ∀ (ps : List PK) (k i s : Nat) (vs : List Value) (k' j : Nat) (v : Value), (k', j) ∈ ownSlots k i s ps → (k', v) ∈ ioArgs k ps vs → False
  | [], _, _, _, _, _, _, _, h, _ => by cases h
  | p :: ps, k, i, s, [], k', j, v, _, h => by cases p <;> cases h
  | .val _ :: ps, k, i, s + 1, u :: vs, k', j, v, h, h' => ownSlots_apart ps (k + 1) i s vs k' j v h h'
  | .fn _ _ :: ps, k, i, s + 1, u :: vs, k', j, v, h, h' => ownSlots_apart ps (k + 1) i s vs k' j v h h'
  | .own _ _ :: ps, k, i, s + 1, u :: vs, k', j, v, h, h' => ownSlots_apart ps (k + 1) i s vs k' j v h h'
  | .io _ _ :: ps, k, i, s + 1, u :: vs, k', j, v, h, h' => by
    rcases List.mem_cons.1 h' with e | h'
    · cases e; have := ownSlots_ge ps (k + 1) i s _ j h; omega
    · exact ownSlots_apart ps (k + 1) i s vs k' j v h h'
  | .val _ :: ps, k, i, 0, u :: vs, k', j, v, h, h' => ownSlots_apart ps (k + 1) (i + 1) 0 vs k' j v h h'
  | .fn _ n :: ps, k, i, 0, u :: vs, k', j, v, h, h' => ownSlots_apart ps (k + 1) (i + 1) n vs k' j v h h'
  | .io _ _ :: ps, k, i, 0, u :: vs, k', j, v, h, h' => by
    rcases List.mem_cons.1 h' with e | h'
    · cases e; have := ownSlots_ge ps (k + 1) (i + 1) 0 _ j h; omega
    · exact ownSlots_apart ps (k + 1) (i + 1) 0 vs k' j v h h'
  | .own _ _ :: ps, k, i, 0, u :: vs, k', j, v, h, h' => by
    have h' : (k', v) ∈ ioArgs (k + 1) ps vs := h'
    rcases List.mem_cons.1 h with e | h
    · cases e
      have := ioArgs_ge ps (k + 1) vs k v h'; omega
    · exact ownSlots_apart ps (k + 1) (i + 1) 0 vs k' j v h h'
  where
  ioArgs_ge : ∀ (ps : List PK) (k : Nat) (vs : List Value) (k' : Nat) (v : Value), (k', v) ∈ ioArgs k ps vs → k ≤ k'
  | [], _, vs, _, _, h => by cases vs <;> cases h
  | .val _ :: ps, k, [], _, _, h => by cases h
  | .io _ _ :: ps, k, [], _, _, h => by cases h
  | .fn _ _ :: ps, k, [], _, _, h => by cases h
  | .own _ _ :: ps, k, [], _, _, h => by cases h
  | .val _ :: ps, k, _ :: vs, k', v, h => by have := ioArgs_ge ps (k + 1) vs k' v h; omega
  | .fn _ _ :: ps, k, _ :: vs, k', v, h => by have := ioArgs_ge ps (k + 1) vs k' v h; omega
  | .own _ _ :: ps, k, _ :: vs, k', v, h => by have := ioArgs_ge ps (k + 1) vs k' v h; omega
  | .io _ _ :: ps, k, _ :: vs, k', v, h => by
    rcases List.mem_cons.1 h with e | h
    · cases e; exact Nat.le_refl _
    · have := ioArgs_ge ps (k + 1) vs k' v h; omega
def ownE (l : List (Nat × Nat)) (own : Nat → Option Own) : Nat → Option Own := fun b => match own b with
  | some (.mem k, some q) => match l.lookup k with
    | some j => some (.slot j, some q)
    | none => some (.mem k, some q)
  | o => o
theorem ownE_ne {l : List (Nat × Nat)} {own : Nat → Option Own} {b : Nat} : ownE l own b = none ↔ own b = none := by
  unfold ownE
  split
  · rename_i e; rw [e]; split <;> simp
  · rfl
theorem ownE_mem {l : List (Nat × Nat)} {own : Nat → Option Own} {b k : Nat} : ownE l own b = some (.mem k, none) ↔ own b = some (.mem k, none) := by
  unfold ownE
  split
  · rename_i e; rw [e]; split <;> simp
  · rfl
theorem ownE_keep {l : List (Nat × Nat)} {own : Nat → Option Own} {b k : Nat} {q : Option Path} (h : own b = some (.mem k, q)) (hk : ∀ j, (k, j) ∉ l) : ownE l own b = some (.mem k, q) := by
  unfold ownE
  rw [h]
  cases q with
  | none => rfl
  | some q =>
    simp only
    cases e : l.lookup k with
    | none => rfl
    | some j => exact absurd (lookup_in _ _ _ e) (hk j)
theorem ownE_at {l : List (Nat × Nat)} {own : Nat → Option Own} {b k j : Nat} {q : Path} (h : own b = some (.mem k, some q)) (hk : l.lookup k = some j) : ownE l own b = some (.slot j, some q) := by
  unfold ownE
  rw [h]
  simp only [hk]
def InA (S : Cx) (w : World) (Z : Nat → Prop) (own : Nat → Option Own) (M : List (Nat × MV S.toNm)) (P : List (Nat × Nat)) (j : Nat) (A : AV S) (v : Value) : Prop :=
  (∃ k t m y cs, A = .v t m y ∧ (k, j) ∈ P ∧ VS t v cs ∧ S.OW w own Z (.mem k) t m [] cs y) ∨ A = .dead ∨ (∃ t y cs, A = inA t y ∧ VS t v cs ∧ S.R w Z t cs y) ∨ (∃ k' t m y, A = .addr (.mem k') [] ∧ M.lookup k' = some ⟨t, m, y⟩ ∧ IoR S w Z own k' v t m y) ∨
  ∃ f cs, ∃ vs : List Value, A = .fn f cs ∧ v = .func (.func f) #[] vs.toArray ∧ caps M cs vs
  where
  cap (M : List (Nat × MV S.toNm)) : Cap S.toNm → Value → Prop
  | .d t y, v => S.R w Z (.box t) [v] y
  | .m k', v => ∃ t m y, M.lookup k' = some ⟨t, m, y⟩ ∧ IoR S w Z own k' v t m y
  caps (M : List (Nat × MV S.toNm)) : List (Cap S.toNm) → List Value → Prop
  | [], [] => True
  | c :: cs, v :: vs => cap M c v ∧ caps M cs vs
  | _, _ => False
theorem InA.caps_up {w : World} {Z : Nat → Prop} {own : Nat → Option Own} {M M' : List (Nat × MV S.toNm)} (hM : ∀ k c, M.lookup k = some c → M'.lookup k = some c) : ∀ (cs : List (Cap S.toNm)) (vs : List Value), InA.caps S w Z own M cs vs → InA.caps S w Z own M' cs vs
  | [], [], _ => trivial
  | [], _ :: _, h => h.elim
  | _ :: _, [], h => h.elim
  | c :: cs, v :: vs, h => by
    refine ⟨?_, InA.caps_up hM cs vs h.2⟩
    cases c with
    | d t y => exact h.1
    | m k => obtain ⟨t, m, y, e1, e2⟩ := h.1; exact ⟨t, m, y, hM _ _ e1, e2⟩
theorem InA.up {w : World} {Z : Nat → Prop} {own : Nat → Option Own} {M M' : List (Nat × MV S.toNm)} {P P' : List (Nat × Nat)} {j : Nat} (hM : ∀ k c, M.lookup k = some c → M'.lookup k = some c) (hP : ∀ k, (k, j) ∈ P → (k, j) ∈ P') {A : AV S} {v : Value} (h : InA S w Z own M P j A v) : InA S w Z own M' P' j A v := by
  rcases h with ⟨k, t, m, y, cs, h1, h2, h3⟩ | h | h | ⟨k', t, m, y, e1, e2, e3⟩ | ⟨f, cs, vs, e1, e2, e3⟩
  · exact .inl ⟨k, t, m, y, cs, h1, hP k h2, h3⟩
  · exact .inr (.inl h)
  · exact .inr (.inr (.inl h))
  · exact .inr (.inr (.inr (.inl ⟨k', t, m, y, e1, hM _ _ e2, e3⟩)))
  · exact .inr (.inr (.inr (.inr ⟨f, cs, vs, e1, e2, InA.caps_up hM cs vs e3⟩)))
theorem capBox_ok {w : World} {Z : Nat → Prop} {own : Nat → Option Own} {M : List (Nat × MV S.toNm)} {t : Ty} {x : S.den t} {c : Cap S.toNm} {v : Value} {cc : List Value} (h : capBox t x = some c) (h1 : VS t v cc) (h2 : S.R w Z t cc x) : InA.cap S w Z own M c v := by
  cases t with
  | box u =>
    cases h
    have h1 : cc = [v] := h1
    subst h1
    exact h2
  | _ => cases h
theorem capsIn_ok {w : World} {Z : Nat → Prop} {own : Nat → Option Own} : ∀ (n k : Nat) (ps : List PK) (x : S.den (packTy (argT ps))) (cs : List (Cap S.toNm)) (pend vs : List Value), pend.length = n → ArgsR S w Z own k ps (flatV ps pend vs) x →
    capsIn n k ps x = some cs → InA.caps S w Z own (inM k ps x) cs pend
  | 0, k, ps, x, cs, pend, vs, hl, hA, hc => by
    have : pend = [] := List.eq_nil_of_length_eq_zero hl
    subst this
    simp only [capsIn, Option.some.injEq] at hc
    subst hc; trivial
  | n + 1, k, [], x, cs, pend, vs, hl, hA, hc => by simp [capsIn] at hc
  | n + 1, k, p :: ps, x, cs, [], vs, hl, hA, hc => by simp at hl
  | n + 1, k, .val t :: ps, x, cs, v :: pend, vs, hl, hA, hc => by
    simp only [capsIn] at hc
    split at hc
    · rename_i c cs' e1 e2
      cases hc
      obtain ⟨hA1, hA2⟩ := hA
      obtain ⟨cc, h1, h2⟩ := hA1
      refine ⟨?_, InA.caps_up (fun _ _ h => h) _ _ (capsIn_ok n (k + 1) ps x.2 cs' pend vs (by simpa using hl) hA2 e2)⟩
      exact capBox_ok e1 h1 h2
    · cases hc
  | n + 1, k, .io t m :: ps, x, cs, v :: pend, vs, hl, hA, hc => by
    simp only [capsIn] at hc
    split at hc
    · rename_i cs' e
      cases hc
      obtain ⟨hA1, hA2⟩ := hA
      exact ⟨⟨t, m, x.1, by simp [inM], hA1⟩, InA.caps_up (fun _ _ h => inM_up h) _ _ (capsIn_ok n (k + 1) ps x.2 cs' pend vs (by simpa using hl) hA2 e)⟩
    · cases hc
  | n + 1, k, .fn _ _ :: ps, x, cs, v :: pend, vs, hl, hA, hc => by simp [capsIn] at hc
  | n + 1, k, .own _ _ :: ps, x, cs, v :: pend, vs, hl, hA, hc => by simp [capsIn] at hc
theorem inV_ok {w : World} {Z : Nat → Prop} {own : Nat → Option Own} : ∀ (ps : List PK) (k i s : Nat) (x : S.den (packTy (argT ps))) (pend vs : List Value), pend.length = s → ArgsR S w Z own k ps (flatV ps pend vs) x → ∀ j A, (inV k i s ps x).lookup j = some A →
    i ≤ j ∧ ∃ v, vs[j - i]? = some v ∧ InA S w Z own (inM k ps x) (ownSlots k i s ps) j A v
  | [], k, i, s, x, pend, vs, hl, hA, j, A, h => by cases h
  | p :: ps, k, i, s + 1, x, [], vs, hl, hA, j, A, h => by simp at hl
  | p :: ps, k, i, s + 1, x, c :: pend, vs, hl, hA, j, A, h => by
    have e : inV k i (s + 1) (p :: ps) x = inV (k + 1) i s ps x.2 := by cases p <;> rfl
    rw [e] at h
    have hA2 : ArgsR S w Z own (k + 1) ps (flatV ps pend vs) x.2 := by cases p <;> exact hA.2
    obtain ⟨h1, v', h2, h3⟩ := inV_ok ps (k + 1) i s x.2 pend vs (by simpa using hl) hA2 j A h
    exact ⟨h1, v', h2, h3.up (fun _ _ h => inM_up h) (fun k' hk => by cases p <;> exact hk)⟩
  | p :: ps, k, i, 0, x, c :: pend, vs, hl, hA, j, A, h => by simp at hl
  | p :: ps, k, i, 0, x, [], [], hl, hA, j, A, h => by cases p <;> exact hA.elim
  | .val t :: ps, k, i, 0, x, [], v :: vs, hl, hA, j, A, h => by
    simp only [inV, List.lookup_cons] at h
    cases hj : j == i
    · rw [hj] at h
      obtain ⟨h1, v', h2, h3⟩ := inV_ok ps (k + 1) (i + 1) 0 x.2 [] vs rfl hA.2 j A h
      refine ⟨by omega, v', ?_, h3.up (fun _ _ h => inM_up h) (fun k' hk => hk)⟩
      rw [show j - i = (j - (i + 1)) + 1 by omega, List.getElem?_cons_succ]; exact h2
    · rw [hj] at h
      have : j = i := by simpa using hj
      subst this
      cases h
      obtain ⟨cs, h1, h2⟩ := hA.1
      exact ⟨Nat.le_refl _, v, by simp, .inr (.inr (.inl ⟨t, x.1, cs, rfl, h1, h2⟩))⟩
  | .own t m :: ps, k, i, 0, x, [], v :: vs, hl, hA, j, A, h => by
    simp only [inV, List.lookup_cons] at h
    cases hj : j == i
    · rw [hj] at h
      obtain ⟨h1, v', h2, h3⟩ := inV_ok ps (k + 1) (i + 1) 0 x.2 [] vs rfl hA.2 j A h
      refine ⟨by omega, v', ?_, h3.up (fun _ _ h => inM_up h) (fun k' hk => List.mem_cons_of_mem _ hk)⟩
      rw [show j - i = (j - (i + 1)) + 1 by omega, List.getElem?_cons_succ]; exact h2
    · rw [hj] at h
      have : j = i := by simpa using hj
      subst this
      cases h
      obtain ⟨cs, h1, h2⟩ := hA.1
      exact ⟨Nat.le_refl _, v, by simp, .inl ⟨k, t, m, x.1, cs, rfl, List.mem_cons_self .., h1, h2⟩⟩
  | .io t m :: ps, k, i, 0, x, [], v :: vs, hl, hA, j, A, h => by
    simp only [inV, List.lookup_cons] at h
    cases hj : j == i
    · rw [hj] at h
      obtain ⟨h1, v', h2, h3⟩ := inV_ok ps (k + 1) (i + 1) 0 x.2 [] vs rfl hA.2 j A h
      refine ⟨by omega, v', ?_, h3.up (fun _ _ h => inM_up h) (fun k' hk => hk)⟩
      rw [show j - i = (j - (i + 1)) + 1 by omega, List.getElem?_cons_succ]; exact h2
    · rw [hj] at h
      have : j = i := by simpa using hj
      subst this
      cases h
      refine ⟨Nat.le_refl _, v, by simp, .inr (.inr (.inr (.inl ⟨k, t, m, x.1, rfl, ?_, hA.1⟩)))⟩
      simp [inM]
  | .fn f n :: ps, k, i, 0, x, [], v :: vs, hl, hA, j, A, h => by
    obtain ⟨⟨cs, hcl, hv⟩, hA2⟩ := hA
    have hcs : capsOf v = cs := by rw [hv]; simp [capsOf]
    rw [hcs] at hA2
    simp only [inV, List.lookup_cons] at h
    cases hj : j == i
    · rw [hj] at h
      obtain ⟨h1, v', h2, h3⟩ := inV_ok ps (k + 1) (i + 1) n x.2 cs vs hcl hA2 j A h
      refine ⟨by omega, v', ?_, h3.up (fun _ _ h => inM_up h) (fun k' hk => hk)⟩
      rw [show j - i = (j - (i + 1)) + 1 by omega, List.getElem?_cons_succ]; exact h2
    · rw [hj] at h
      have : j = i := by simpa using hj
      subst this
      cases h
      refine ⟨Nat.le_refl _, v, by simp, ?_⟩
      cases e : capsIn n (k + 1) ps x.2 with
      | none => exact .inr (.inl rfl)
      | some cc => exact .inr (.inr (.inr (.inr ⟨f, cc, cs, rfl, hv, InA.caps_up (fun _ _ h => inM_up h) _ _ (capsIn_ok n (k + 1) ps x.2 cc cs vs hcl hA2 e)⟩)))
theorem inM_ok {w : World} {Z : Nat → Prop} {own : Nat → Option Own} : ∀ (ps : List PK) (k : Nat) (x : S.den (packTy (argT ps))) (vs : List Value), ArgsR S w Z own k ps vs x → ∀ j c, (inM k ps x).lookup j = some c →
    ∃ v, (j, v) ∈ ioArgs k ps vs ∧ IoR S w Z own j v c.t c.m c.x
  | [], k, x, [], hA, j, c, h => by cases h
  | [], k, x, _ :: _, hA, j, c, h => hA.elim
  | _ :: _, k, x, [], hA, j, c, h => hA.elim
  | .val t :: ps, k, x, v :: vs, hA, j, c, h => inM_ok ps (k + 1) x.2 vs hA.2 j c h
  | .fn _ _ :: ps, k, x, v :: vs, hA, j, c, h => inM_ok ps (k + 1) x.2 vs hA.2 j c h
  | .own _ _ :: ps, k, x, v :: vs, hA, j, c, h => inM_ok ps (k + 1) x.2 vs hA.2 j c h
  | .io t m :: ps, k, x, v :: vs, hA, j, c, h => by
    simp only [inM, List.lookup_cons] at h
    cases hj : j == k
    · rw [hj] at h
      obtain ⟨v', h1, h2⟩ := inM_ok ps (k + 1) x.2 vs hA.2 j c h
      exact ⟨v', List.mem_cons_of_mem _ h1, h2⟩
    · rw [hj] at h
      have : j = k := by simpa using hj
      subst this
      cases h
      exact ⟨v, List.mem_cons_self .., hA.1⟩
theorem ioArgs_R {w : World} {Z : Nat → Prop} {own : Nat → Option Own} : ∀ (ps : List PK) (k : Nat) (x : S.den (packTy (argT ps))) (vs : List Value), ArgsR S w Z own k ps vs x → ∀ j v, (ioArgs k ps vs).lookup j = some v →
    k ≤ j ∧ ∃ t m y, IoR S w Z own j v t m y
  | [], k, x, [], hA, j, v, h => by cases h
  | [], k, x, _ :: _, hA, j, v, h => hA.elim
  | _ :: _, k, x, [], hA, j, v, h => hA.elim
  | .val t :: ps, k, x, v :: vs, hA, j, u, h => let ⟨h1, h2⟩ := ioArgs_R ps (k + 1) x.2 vs hA.2 j u h; ⟨by omega, h2⟩
  | .fn _ _ :: ps, k, x, v :: vs, hA, j, u, h => let ⟨h1, h2⟩ := ioArgs_R ps (k + 1) x.2 vs hA.2 j u h; ⟨by omega, h2⟩
  | .own _ _ :: ps, k, x, v :: vs, hA, j, u, h => let ⟨h1, h2⟩ := ioArgs_R ps (k + 1) x.2 vs hA.2 j u h; ⟨by omega, h2⟩
  | .io t m :: ps, k, x, v :: vs, hA, j, u, h => by
    simp only [ioArgs, List.lookup_cons] at h
    cases hj : j == k
    · rw [hj] at h
      obtain ⟨h1, h2⟩ := ioArgs_R ps (k + 1) x.2 vs hA.2 j u h
      exact ⟨by omega, h2⟩
    · rw [hj] at h
      have : j = k := by simpa using hj
      subst this
      cases h
      exact ⟨Nat.le_refl _, t, m, x.1, hA.1⟩
theorem ioArgs_mem {w : World} {Z : Nat → Prop} {own : Nat → Option Own} : ∀ (ps : List PK) (k : Nat) (x : S.den (packTy (argT ps))) (vs : List Value), ArgsR S w Z own k ps vs x → ∀ j v, (j, v) ∈ ioArgs k ps vs →
    k ≤ j ∧ (ioArgs k ps vs).lookup j = some v ∧ ∃ t m y, IoR S w Z own j v t m y
  | [], k, x, [], hA, j, v, h => by cases h
  | [], k, x, _ :: _, hA, j, v, h => hA.elim
  | _ :: _, k, x, [], hA, j, v, h => hA.elim
  | .val t :: ps, k, x, v :: vs, hA, j, u, h => let ⟨h1, h2⟩ := ioArgs_mem ps (k + 1) x.2 vs hA.2 j u h; ⟨by omega, h2⟩
  | .fn _ _ :: ps, k, x, v :: vs, hA, j, u, h => let ⟨h1, h2⟩ := ioArgs_mem ps (k + 1) x.2 vs hA.2 j u h; ⟨by omega, h2⟩
  | .own _ _ :: ps, k, x, v :: vs, hA, j, u, h => let ⟨h1, h2⟩ := ioArgs_mem ps (k + 1) x.2 vs hA.2 j u h; ⟨by omega, h2⟩
  | .io t m :: ps, k, x, v :: vs, hA, j, u, h => by
    rcases List.mem_cons.1 h with e | h
    · cases e
      exact ⟨Nat.le_refl _, by simp [ioArgs], t, m, x.1, hA.1⟩
    · obtain ⟨h1, h2, h3⟩ := ioArgs_mem ps (k + 1) x.2 vs hA.2 j u h
      refine ⟨by omega, ?_, h3⟩
      have : (j == k) = false := by simp; omega
      simp only [ioArgs, List.lookup_cons, this]
      exact h2
theorem TR_inA {t : Ty} {y : S.den t} {i : Nat} {v : Value} (h : ∃ cs, VS t v cs ∧ S.R w (g.Z own w) t cs y) : TR g st own a w i (inA t y) v := by
  obtain ⟨cs, h1, h2⟩ := h
  cases t with
  | box u =>
    obtain ⟨b, off, cs', e1, e2, e3, e4⟩ := Cx.R_box.1 h2
    have h1 : cs = [v] := h1
    rw [h1] at e1
    exact ⟨b, off, cs', (List.cons.inj e1).1, e2, e3, e4⟩
  | _ => exact TR_ro.2 ⟨cs, h1, h2⟩
def pinOf (l : List (Nat × Value)) (k : Nat) : Option Nat := match l.lookup k with
  | some (.pointer (some a)) => some a.block
  | _ => none
theorem rel_in {P : Program} {E : Env S} {w : World} {Z : Nat → Prop} {own : Nat → Option Own} {ps : List PK} {x : S.den (packTy (argT ps))} {vs : List Value} {n : Nat}
    (hZ : ∀ b, Z b → b < w.heap.size ∧ own b = none) (hown : ∀ b, own b ≠ none → b < w.heap.size) (hA : ArgsR S w Z own ioBase ps (flatV ps [] vs) x) (hzn : ∀ b, Z b → b < w.heap.size ∧ ¬ own b ≠ none) (hG : GlobR S w Z) :
    Rel ⟨P, E, w, Z, fun b => own b ≠ none, pinOf (ioArgs ioBase ps (flatV ps [] vs)), hzn, hG, []⟩ (ownE (ownSlots ioBase 0 0 ps) own) (stIn ps x) ⟨vs.toArray ++ Array.replicate (n - vs.toArray.size) undef, []⟩ w := by
  have hZ' : ∀ b, Z b → Gl.Z (S := S) ⟨P, E, w, Z, fun b => own b ≠ none, pinOf (ioArgs ioBase ps (flatV ps [] vs)), hzn, hG, []⟩ (ownE (ownSlots ioBase 0 0 ps) own) w b := fun b hb => ⟨.inl hb, (hZ b hb).1, ownE_ne.2 (hZ b hb).2⟩
  have hM : ∀ k c, (stIn ps x).mems.lookup k = some c → MR (S := S) ⟨P, E, w, Z, fun b => own b ≠ none, pinOf (ioArgs ioBase ps (flatV ps [] vs)), hzn, hG, []⟩ (ownE (ownSlots ioBase 0 0 ps) own) w k c := fun k c hk => by
    obtain ⟨v, h1, b, e, cells, h2, h3, h4, h5, h6⟩ := inM_ok ps ioBase x _ hA k c hk
    have hno : ∀ j, (k, j) ∉ ownSlots ioBase 0 0 ps := fun j hj => ownSlots_apart ps ioBase 0 0 _ k j v hj h1
    exact ⟨b, e, cells, ownE_mem.2 h3, h4, OW_frame hZ' (fun _ _ => rfl) _ _ _ _ _ _ (fun b q hb => ⟨ownE_keep hb hno, rfl⟩) h5, fun b' hb' => h6 b' (ownE_mem.1 hb')⟩
  refine ⟨rfl, rfl, rfl, Nat.le_refl _, fun _ _ _ => rfl, fun b hb => ⟨.inr (fun e => hb (ownE_ne.2 e)), hown b (fun e => hb (ownE_ne.2 e))⟩, fun i => ?_, hM, rfl, fun k b b' hp hb => ?_⟩
  · have hl : (stIn ps x).look i = match (inV ioBase 0 0 ps x).lookup i with | some A => A | none => .dead := by
      simp only [St.look, stIn]
      cases (inV ioBase 0 0 ps x).lookup i <;> rfl
    rw [hl]
    cases hA' : (inV ioBase 0 0 ps x).lookup i with
    | none => trivial
    | some A =>
      obtain ⟨_, v, hv, h⟩ := inV_ok ps ioBase 0 0 x [] vs rfl hA i A hA'
      rw [Nat.sub_zero] at hv
      have hlt : i < vs.length := (List.getElem?_eq_some_iff.1 hv).1
      have hv' : (vs.toArray ++ Array.replicate (n - vs.toArray.size) undef).getD i undef = v := by
        rw [Array.getD_eq_getD_getElem?, Array.getElem?_append_left (by simpa using hlt)]
        simp [hv]
      simp only [hv']
      rcases h with ⟨k, t, m, y, cs, rfl, h0, h1, h2⟩ | rfl | ⟨t, y, cs, rfl, h1, h2⟩ | ⟨k', t, m, y, rfl, h1, h2⟩ | ⟨f, cs, us, rfl, h1, h2⟩
      · exact ⟨cs, h1, OW_frame hZ' (fun _ _ => rfl) _ _ _ _ _ _ (fun b q hb => ⟨ownE_at hb (ownSlots_find _ _ _ _ _ _ h0), rfl⟩) h2⟩
      rotate_right
      · refine ⟨us, h1, ?_⟩
        clear hA' hv hv' h1
        induction cs generalizing us with
        | nil => cases us with
          | nil => trivial
          | cons _ _ => exact h2.elim
        | cons c cs ih => cases us with
          | nil => exact h2.elim
          | cons u us =>
            refine ⟨?_, ih us h2.2⟩
            have h3 := h2.1
            cases c with
            | d t y =>
              obtain ⟨b, off, cs', e1, e2, e3, e4⟩ := Cx.R_box.1 h3
              exact ⟨b, off, cs', (List.cons.inj e1).1, hZ' _ e2, e3, e4.frame hZ' (fun _ _ => rfl)⟩
            | m k' =>
              obtain ⟨t, m, y, h1, b, e, cells, g1, g2, g3, g4, g5⟩ := h3
              exact ⟨b, 0, cells.toList, ⟨t, m, y⟩, ⟨t, m, y, some (b, 0), cells.toList, h1, (fun s hs => by cases hs), ⟨b, e, cells, rfl, ownE_mem.2 g2, g3, rfl⟩, okP_nil, nav_nil, getP_nil⟩, g1⟩
      · trivial
      · exact TR_inA ⟨cs, h1, h2.frame hZ' (fun _ _ => rfl)⟩
      · obtain ⟨b, e, cells, g1, g2, g3, g4, g5⟩ := h2
        refine ⟨b, 0, cells.toList, ⟨t, m, y⟩, ⟨t, m, y, some (b, 0), cells.toList, h1, (fun s hs => by cases hs), ⟨b, e, cells, rfl, ownE_mem.2 g2, g3, rfl⟩, okP_nil, nav_nil, getP_nil⟩, g1⟩
  · simp only [pinOf] at hp
    split at hp
    · rename_i ad e
      cases hp
      obtain ⟨_, t, m, y, b0, e0, cells, g1, g2, g3, g4, g5⟩ := ioArgs_R ps ioBase x _ hA k _ e
      cases g1
      exact g5 b' (ownE_mem.1 hb)
    · cases hp
theorem fn_ok {P : Program} {E : Env S} {F : FSpec S.toNm} {f : Nat} {fn : Func} {c : Code} {hn : Hint} (ok : S.Ok) (T : TysOk P E) (hfs : ∀ f F, E.fs f = some F → FnOk P F f) (hmo : P.follows .mixedOrders = true)
    (hf : P.funcs[f]? = some fn) (hb : fn.body = some c) (hname : (fn.name == "runtime.NumGoroutine") = false) (hres : F.nres = fn.results.toList.length) (hcode : codeOk E hn fn.ntmps c = true)
    (hn1 : F.ps.length ≤ fn.ntmps) (hn2 : fn.ntmps ≤ ioBase) (hFo : F.o = none) (hFp : F.p = none) (hFr : F.r = none)
    (hrun : ∀ x r, F.f x = some r → ∃ k, run E hn k c (stIn F.ps x) (fin E fn.results.toList F.rt F.rm (ioKs ioBase F.ps) (outs F.ps)) = some r) (hFl : F.l = none := by rfl) : FnOk P F f := by
  refine .of hFo ?_ hFp hFr hFl
  intro w Z own vs x r hZ hown hA hG hx
  have hzn : ∀ b, Z b → b < w.heap.size ∧ ¬ own b ≠ none := fun b hb => ⟨(hZ b hb).1, fun h => h (hZ b hb).2⟩
  have hlen : ∀ (ps : List PK) (k : Nat) (vs : List Value) (x : S.den (packTy (argT ps))), ArgsR S w Z own k ps vs x → vs.length = ps.length := by
    intro ps
    induction ps with
    | nil => intro k vs x h; cases vs with
      | nil => rfl
      | cons v vs => exact h.elim
    | cons p ps ih => intro k vs x h; cases vs with
      | nil => exact h.elim
      | cons v vs => simp [ih _ _ _ h.2]
  have hvl := hlen _ _ _ _ hA
  have hvl2 := flatV_len F.ps [] vs
  have henter : (callFunc f vs.toArray).run P w = .ok (.enter f vs.toArray) w := by
    simp only [callFunc, Sem.run_bind, run_program, Result.andThen_ok, hf, hname, Bool.false_eq_true, if_false, hb, Option.isNone]
    rfl
  unfold Enters
  rw [henter]
  obtain ⟨k, hk⟩ := hrun x r hx
  have hrel := rel_in (P := P) (E := E) (n := fn.ntmps) hZ hown hA hzn hG
  refine calls_of_wp hf hb (wp_mono (run_sound (g := ⟨P, E, w, Z, fun b => own b ≠ none, pinOf (ioArgs ioBase F.ps (flatV F.ps [] vs)), hzn, hG, []⟩) (n := fn.ntmps) ok T hfs hmo (fun d hd => ?_) c (stIn F.ps x) _ r (ownE (ownSlots ioBase 0 0 F.ps) own) _ w hcode hrel ?_ hk) ?_)
  · show pinOf (ioArgs ioBase F.ps (flatV F.ps [] vs)) d = none
    unfold pinOf
    cases e : (ioArgs ioBase F.ps (flatV F.ps [] vs)).lookup d with
    | none => rfl
    | some v => have := (ioArgs_R F.ps ioBase x _ hA d v e).1; omega
  · simp; omega
  · intro e a' w' hq
    have key : ∀ own' st', Rel ⟨P, E, w, Z, fun b => own b ≠ none, pinOf (ioArgs ioBase F.ps (flatV F.ps [] vs)), hzn, hG, []⟩ own' st' a' w' → fin.go E fn.results.toList F.rt F.rm (ioKs ioBase F.ps) (outs F.ps) st' = some r →
        a'.defers = [] ∧ ∃ v, (results fn a'.tmps).run P w' = .ok v w' ∧ (∃ v', Ending.returned v = .returned v' ∧ ∃ own'', Left own own'' w w' ∧ ResR w' (zoneOf Z own own'' w w') own'' F v' r.1 ∧ OutsR S w' (zoneOf Z own own'' w w') own'' (ioArgs ioBase F.ps (flatV F.ps [] vs)) (outs F.ps) r.2) := by
      intro own' st' h1 h2
      unfold fin.go at h2
      split at h2
      · rename_i y st1 e1
        split at h2
        · rename_i z e2
          cases h2
          obtain ⟨own1, v, k1, k2, k3⟩ := resAll_ok (F := F) ok T h1 hres e1
          refine ⟨h1.defs, v, k2, v, rfl, own1, ⟨k1.os, k1.tape, k1.output, k1.size, fun b hb hn => k1.block b hb (by simpa using hn), fun b hb => ⟨(k1.fresh b hb).2, (k1.fresh b hb).1⟩⟩, k3, ?_⟩
          refine memAll_ok F.ps ioBase _ x w Z own z hA k1 (fun i v hi => ?_) e2
          obtain ⟨_, hl, t, m, y, b, e, cells, g1, _⟩ := ioArgs_mem F.ps ioBase x _ hA i v hi
          refine ⟨b, g1, ?_⟩
          show pinOf (ioArgs ioBase F.ps (flatV F.ps [] vs)) i = some b
          unfold pinOf
          rw [hl, g1]
        · cases h2
      · cases h2
    cases e with
    | normal => obtain ⟨own', st', h1, h2, h3⟩ := hq; exact key own' st' h1 h2
    | ret => obtain ⟨own', st', h1, h2, h3⟩ := hq; exact key own' st' h1 h2
    | exit i => obtain ⟨own', st', h1, h2, h3⟩ := hq; cases h2
    | goto i => exact hq.elim
    | panic c => obtain ⟨_, _, _, _, _, _, h2⟩ := hq; cases h2
    | outgrown => exact hq.elim
end
end Go.Proofs.Ytdnkjfmneppkoaa.Vm
namespace Go.Proofs.Ytdnkjfmneppkoaa.Vm
open Go Go.RowKit
set_option linter.unusedVariables false
section
end
end Go.Proofs.Ytdnkjfmneppkoaa.Vm
namespace Go.Proofs.Ytdnkjfmneppkoaa.Vm
open Go Go.RowKit
set_option linter.unusedVariables false
section
variable {S : Cx}
def fieldsCheck (E : Env S) : List Field → Ty → Nat → Bool
  | f :: g :: fs, .pair a b, off => Nat.beq f.offset off && E.is f.type a && Nat.ble 1 (S.size a) && fieldsCheck E (g :: fs) b (off + S.size a)
  | [_], .pair _ _, _ => false
  | [f], u, off => Nat.beq f.offset off && E.is f.type u && Nat.ble 1 (S.size u)
  | _, _, _ => false
theorem fieldsCheck_ok {E : Env S} : ∀ (fs : List Field) (u : Ty) (off : Nat), fieldsCheck E fs u off = true → FieldsOk S E fs u off := by
  intro fs
  induction fs with
  | nil => intro u off h; cases u <;> cases h
  | cons f fs ih =>
    intro u off h
    cases fs with
    | nil =>
      cases u with
      | pair a b => cases h
      | _ =>
        simp only [fieldsCheck, Bool.and_eq_true] at h
        exact ⟨Nat.eq_of_beq_eq_true h.1.1, Env.is_lookup h.1.2, Nat.le_of_ble_eq_true h.2⟩
    | cons g fs =>
      cases u with
      | pair a b =>
        simp only [fieldsCheck, Bool.and_eq_true] at h
        exact ⟨Nat.eq_of_beq_eq_true h.1.1.1, Env.is_lookup h.1.1.2, Nat.le_of_ble_eq_true h.1.2, ih _ _ h.2⟩
      | _ => cases h
def undCheck (P : Program) (E : Env S) (t : Nat) : Ty → Bool
  | .int k => match P.underlying t with
    | some (.int k') => decide (k' = k)
    | _ => false
  | .bool => match P.underlying t with
    | some .bool => true
    | _ => false
  | .str => match P.underlying t with
    | some .string => true
    | _ => false
  | .slice e u => match P.underlying t with
    | some (.slice e') => Nat.beq e' e && E.is e (S.un u) && Nat.ble 1 (S.size u)
    | _ => false
  | .ptr _ => match P.underlying t with
    | some (.pointer e) => match P.info? e with
      | some i => !Nat.beq i.size 0
      | none => false
    | _ => false
  | .lptr _ => match P.underlying t with
    | some (.pointer e) => match P.info? e with
      | some i => !Nat.beq i.size 0
      | none => false
    | _ => false
  | .agg u => match P.underlying t with
    | some (.struct fs) => fieldsCheck E fs.toList u 0
    | some (.array n e) => match u with
      | .arr n' v => Nat.beq n n' && E.is e v && Nat.ble 1 (S.size v)
      | _ => false
    | _ => false
  | .clo _ _ => match P.underlying t with
    | some (.func _ _ _) => true
    | _ => false
  | .map k v => match P.underlying t with
    | some (.map kt et) => E.is kt k && E.is et v
    | _ => false
  | _ => false
theorem undCheck_ok {P : Program} {E : Env S} {t : Nat} {ty : Ty} (h : undCheck P E t ty = true) : UndOk P E t ty := by
  cases ty with
  | int k =>
    simp only [undCheck] at h
    split at h
    · rename_i k' e; have := of_decide_eq_true h; subst this; exact e
    · cases h
  | bool =>
    simp only [undCheck] at h
    split at h
    · assumption
    · cases h
  | str =>
    simp only [undCheck] at h
    split at h
    · assumption
    · cases h
  | slice e u =>
    simp only [undCheck] at h
    split at h
    · rename_i e' he
      simp only [Bool.and_eq_true] at h
      have := Nat.eq_of_beq_eq_true h.1.1
      subst this
      exact ⟨he, Env.is_lookup h.1.2, Nat.le_of_ble_eq_true h.2⟩
    · cases h
  | ptr n =>
    simp only [undCheck] at h
    split at h
    · rename_i e he
      split at h
      · rename_i i hi
        refine ⟨e, i, he, hi, fun h0 => ?_⟩
        rw [h0] at h; cases h
      · cases h
    · cases h
  | lptr n =>
    simp only [undCheck] at h
    split at h
    · rename_i e he
      split at h
      · rename_i i hi
        refine ⟨e, i, he, hi, fun h0 => ?_⟩
        rw [h0] at h; cases h
      · cases h
    · cases h
  | agg u =>
    simp only [undCheck] at h
    split at h
    · rename_i fs he; exact .inl ⟨fs, he, fieldsCheck_ok _ _ _ h⟩
    · rename_i n e he
      split at h
      · rename_i n' v
        simp only [Bool.and_eq_true] at h
        have := Nat.eq_of_beq_eq_true h.1.1
        subst this
        exact .inr ⟨_, _, e, rfl, he, Env.is_lookup h.1.2, Nat.le_of_ble_eq_true h.2⟩
      · cases h
    · cases h
  | clo f u =>
    simp only [undCheck] at h
    split at h
    · exact ⟨_, _, _, by assumption⟩
    · cases h
  | map k v =>
    simp only [undCheck] at h
    split at h
    · rename_i kt et he
      simp only [Bool.and_eq_true] at h
      exact ⟨kt, et, he, Env.is_lookup h.1, Env.is_lookup h.2⟩
    · cases h
  | _ => cases h
def repO (f : List Value → Option (List Value)) : Nat → List Value → Option (List Value)
  | 0, l => some l
  | n + 1, l => match f l with
    | some l' => repO f n l'
    | none => none
theorem repO_ok {f : List Value → Option (List Value)} {c : List Value} (h : ∀ l l', f l = some l' → l = c ++ l') : ∀ (n : Nat) (l l' : List Value), repO f n l = some l' → l = (List.replicate n c).flatten ++ l'
  | 0, l, l', e => by cases e; rfl
  | n + 1, l, l', e => by
    simp only [repO] at e
    split at e
    · rename_i l1 e1
      rw [h _ _ e1, repO_ok h n l1 l' e, List.replicate_succ, List.flatten_cons, List.append_assoc]
    · cases e
def cellsCheck : List Value → Ty → Option (List Value)
  | .int k n :: l, .int k' => match decide (k = k') && decide (n = 0) with
    | true => some l
    | false => none
  | .bool b :: l, .bool => match b with
    | false => some l
    | true => none
  | .string s :: l, .str => match s.data.toList with
    | [] => some l
    | _ => none
  | .slice none 0 0 :: l, .slice _ _ => some l
  | .pointer none :: l, .ptr _ => some l
  | .pointer none :: l, .lptr _ => some l
  | l, .pair a b => match cellsCheck l a with
    | some l' => cellsCheck l' b
    | none => none
  | l, .agg t => cellsCheck l t
  | .map none :: l, .map _ _ => some l
  | .nilFunc :: l, .clo _ _ => some l
  | l, .arr n t => repO (fun l => cellsCheck l t) n l
  | _, _ => none
theorem cellsCheck_ok : ∀ (t : Ty) (l l' : List Value), cellsCheck l t = some l' → l = zc t ++ l' := by
  intro t
  induction t with
  | int k =>
    intro l l' h
    cases l with
    | nil => cases h
    | cons v l =>
      cases v with
      | int k' n =>
        simp only [cellsCheck] at h
        split at h
        · rename_i e
          simp only [Bool.and_eq_true, decide_eq_true_eq] at e
          cases h
          rw [e.1, e.2]; rfl
        · cases h
      | slice b n c => cases b <;> cases n <;> cases c <;> cases h
      | pointer p => cases p <;> cases h
      | _ => cases h
  | bool =>
    intro l l' h
    cases l with
    | nil => cases h
    | cons v l =>
      cases v with
      | bool b =>
        cases b with
        | false => cases h; rfl
        | true => cases h
      | slice b n c => cases b <;> cases n <;> cases c <;> cases h
      | pointer p => cases p <;> cases h
      | _ => cases h
  | str =>
    intro l l' h
    cases l with
    | nil => cases h
    | cons v l =>
      cases v with
      | string s =>
        simp only [cellsCheck] at h
        split at h
        · rename_i e
          cases h
          have : s = ByteArray.empty := by
            apply ByteArray.ext
            apply Array.ext'
            rw [e]; rfl
          rw [this]; rfl
        · cases h
      | slice b n c => cases b <;> cases n <;> cases c <;> cases h
      | pointer p => cases p <;> cases h
      | _ => cases h
  | slice e t ih =>
    intro l l' h
    cases l with
    | nil => cases h
    | cons v l =>
      cases v with
      | slice b n c => cases b <;> cases n <;> cases c <;> first | (cases h; rfl) | cases h
      | pointer p => cases p <;> cases h
      | _ => cases h
  | pair a b iha ihb =>
    intro l l' h
    have h' : (match cellsCheck l a with | some l' => cellsCheck l' b | none => none) = some l' := by
      rw [← h]
      cases l with
      | nil => rfl
      | cons v l => cases v <;> (first | rfl | (rename_i b n c; cases b <;> cases n <;> cases c <;> rfl) | (rename_i p; cases p <;> rfl))
    split at h'
    · rename_i l1 e
      rw [iha _ _ e, ihb _ _ h']
      simp [zc]
    · cases h'
  | agg t ih =>
    intro l l' h
    refine ih l l' ?_
    rw [← h]
    cases l with
    | nil => rfl
    | cons v l => cases v <;> (first | rfl | (rename_i b n c; cases b <;> cases n <;> cases c <;> rfl) | (rename_i p; cases p <;> rfl))
  | ptr n =>
    intro l l' h
    cases l with
    | nil => cases h
    | cons v l =>
      cases v with
      | pointer p => cases p with
        | none => cases h; rfl
        | some _ => cases h
      | slice b n c => cases b <;> cases n <;> cases c <;> cases h
      | _ => cases h
  | lptr n =>
    intro l l' h
    cases l with
    | nil => cases h
    | cons v l =>
      cases v with
      | pointer p => cases p with
        | none => cases h; rfl
        | some _ => cases h
      | slice b n c => cases b <;> cases n <;> cases c <;> cases h
      | _ => cases h
  | named n =>
    intro l l' h
    cases l with
    | nil => cases h
    | cons v l => cases v <;> (first | cases h | (rename_i b n c; cases b <;> cases n <;> cases c <;> cases h) | (rename_i p; cases p <;> cases h))
  | unit =>
    intro l l' h
    cases l with
    | nil => cases h
    | cons v l => cases v <;> (first | cases h | (rename_i b n c; cases b <;> cases n <;> cases c <;> cases h) | (rename_i p; cases p <;> cases h))
  | arr n t ih =>
    intro l l' h
    refine repO_ok (f := fun l => cellsCheck l t) ih n l l' ?_
    rw [← h]
    cases l with
    | nil => rfl
    | cons v l => cases v <;> (first | rfl | (rename_i b n c; cases b <;> cases n <;> cases c <;> rfl) | (rename_i p; cases p <;> rfl))
  | box t ih =>
    intro l l' h
    cases l with
    | nil => cases h
    | cons v l => cases v <;> (first | cases h | (rename_i b n c; cases b <;> cases n <;> cases c <;> cases h) | (rename_i p; cases p <;> cases h))
  | map k v ihk ihv =>
    intro l l' h
    cases l with
    | nil => cases h
    | cons v l => cases v <;> (first | cases h | (rename_i b n c; cases b <;> cases n <;> cases c <;> cases h) | (rename_i p; cases p <;> first | (cases h; rfl) | cases h))
  | clo f u ih =>
    intro l l' h
    cases l with
    | nil => cases h
    | cons v l => cases v <;> (first | cases h | (rename_i b n c; cases b <;> cases n <;> cases c <;> cases h) | (rename_i p; cases p <;> cases h)) <;> rfl
def zeroCheck (t : Ty) (z : Value) : Bool :=
  match t.isAgg with
  | true => match z with
    | .agg cs => match cellsCheck cs.toList t with
      | some [] => true
      | _ => false
    | _ => false
  | false => match cellsCheck [z] t with
    | some [] => true
    | _ => false
theorem zeroCheck_ok {t : Ty} {z : Value} (h : zeroCheck t z = true) : VS t z (zc t) := by
  unfold zeroCheck at h
  unfold VS
  split at h
  · rename_i ht
    split at h
    · rename_i cs
      split at h
      · rename_i e
        have := cellsCheck_ok _ _ _ e
        rw [List.append_nil] at this
        simp only [ht, ← this]
      · cases h
    · cases h
  · rename_i ht
    split at h
    · rename_i e
      have := cellsCheck_ok _ _ _ e
      rw [List.append_nil] at this
      simp only [ht, ← this]
    · cases h
def eqCheck (P : Program) (t : Nat) (ty : Ty) : Bool :=
  match ty.isAgg && ty.eqable with
  | true => Nat.ble ty.tdep 100 && !P.stoodInHeld t && !P.eqGuardType P.depth t && (P.fieldsOf t).toList.all fun f => f.name != "_"
  | false => true
theorem eqCheck_ok {P : Program} {t : Nat} {ty : Ty} (h : eqCheck P t ty = true) : EqOk P t ty := by
  intro h1 h2
  unfold eqCheck at h
  rw [h1, h2] at h
  simp only [Bool.and_self, Bool.and_eq_true, Bool.not_eq_true', List.all_eq_true, bne_iff_ne] at h
  exact ⟨Nat.le_of_ble_eq_true h.1.1.1, h.1.1.2, h.1.2, h.2⟩
def tyCheck (P : Program) (E : Env S) (t : Nat) (ty : Ty) : Bool :=
  undCheck P E t ty && (ty.isMap || ty.isClo || noName ty) && Nat.ble 1 (S.size ty) && eqCheck P t ty && match P.info? t with
    | some i => Nat.beq i.size (S.size ty) && Nat.ble i.bytes 4096 && match i.zero with
      | some z => zeroCheck ty z
      | none => false
    | none => false
theorem tyCheck_ok {P : Program} {E : Env S} {t : Nat} {ty : Ty} (h : tyCheck P E t ty = true) : TyFact P E t ty := by
  simp only [tyCheck, Bool.and_eq_true] at h
  obtain ⟨⟨⟨⟨h1, h2⟩, h3⟩, h8⟩, h4⟩ := h
  split at h4
  · rename_i i hi
    simp only [Bool.and_eq_true] at h4
    obtain ⟨⟨h5, h6⟩, h7⟩ := h4
    split at h7
    · rename_i z hz
      exact ⟨undCheck_ok h1, ⟨i, z, hi, Nat.eq_of_beq_eq_true h5, hz, zeroCheck_ok h7, Nat.le_of_ble_eq_true h6⟩, (fun hm => by rw [hm] at h2; simpa using h2), Nat.le_of_ble_eq_true h3, eqCheck_ok h8⟩
    · cases h7
  · cases h4
theorem lookup_mem {β : Type} : ∀ (l : List (Nat × β)) (k : Nat) (x : β), l.lookup k = some x → (k, x) ∈ l
  | [], _, _, h => by cases h
  | (k0, b) :: l, k, x, h => by
    rw [List.lookup_cons] at h
    cases hk : k == k0
    · rw [hk] at h; exact List.mem_cons_of_mem _ (lookup_mem l k x h)
    · rw [hk] at h
      have : k = k0 := by simpa using hk
      cases h; subst this; exact List.mem_cons_self ..
theorem tysOk {P : Program} {E : Env S} (h : (E.tys.all fun x => tyCheck P E x.1 x.2) = true) : TysOk P E := fun t ty ht =>
  tyCheck_ok (List.all_eq_true.1 h _ (lookup_mem _ _ _ ht))
end
end Go.Proofs.Ytdnkjfmneppkoaa.Vm
namespace Go.Proofs.Ytdnkjfmneppkoaa.Vm
open Go Go.RowKit
set_option linter.unusedVariables false
section
variable {S : Cx}
noncomputable def runOf (E : Env S) (hn : Hint) (k : Nat) (fn : Func) (ps : List PK) (rt : Ty) (rm : Mode) (x : S.den (packTy (argT ps))) : Option (S.den (resTy rt (outT (outs ps)))) :=
  run E hn k (fn.body.getD .skip) (stIn ps x) (fin E fn.results.toList rt rm (ioKs ioBase ps) (outs ps))
def fnCheck0 (E : Env S) (hn : Hint) (fn : Func) (F : FSpec S.toNm) : Bool :=
  (match fn.body with
    | some c => codeOk E hn fn.ntmps c
    | none => false) && !(fn.name == "runtime.NumGoroutine") && Nat.beq F.nres fn.results.toList.length && Nat.ble F.ps.length fn.ntmps && Nat.ble fn.ntmps ioBase && F.o.isNone && F.r.isNone
def fnCheck (E : Env S) (hn : Hint) (fn : Func) (F : FSpec S.toNm) : Bool := fnCheck0 E hn fn F && F.p.isNone && F.l.isNone
theorem fn_of {P : Program} {E : Env S} {F : FSpec S.toNm} {f : Nat} {fn : Func} {hn : Hint} (ok : S.Ok) (T : TysOk P E) (hfs : ∀ f F, E.fs f = some F → FnOk P F f) (hmo : P.follows .mixedOrders = true)
    (hf : P.funcs[f]? = some fn) (hc : fnCheck E hn fn F = true) (hrun : ∀ x r, F.f x = some r → ∃ k, runOf E hn k fn F.ps F.rt F.rm x = some r) : FnOk P F f := by
  simp only [fnCheck, fnCheck0, Bool.and_eq_true, Bool.not_eq_true'] at hc
  obtain ⟨⟨⟨⟨⟨⟨⟨⟨h1, h2⟩, h3⟩, h4⟩, h5⟩, h6⟩, h8⟩, h7⟩, h9⟩ := hc
  split at h1
  · rename_i c hb
    refine fn_ok (c := c) (hn := hn) ok T hfs hmo hf hb h2 (Nat.eq_of_beq_eq_true h3) h1 (Nat.le_of_ble_eq_true h4) (Nat.le_of_ble_eq_true h5) (Option.isNone_iff_eq_none.1 h6) (Option.isNone_iff_eq_none.1 h7) (Option.isNone_iff_eq_none.1 h8) (fun x r hx => ?_) (Option.isNone_iff_eq_none.1 h9)
    obtain ⟨k, this⟩ := hrun x r hx
    unfold runOf at this
    rw [hb] at this
    exact ⟨k, this⟩
  · cases h1
def subC : Code → List Nat → Code
  | c, [] => c
  | .seq a b, i :: l => match i with
    | 0 => subC a l
    | _ => subC b l
  | .cond _ a b, i :: l => match i with
    | 0 => subC a l
    | _ => subC b l
  | .block _ c, _ :: l => subC c l
  | .loop c, _ :: l => subC c l
  | c, _ => c
def bodyC (fn : Func) : Code := fn.body.getD .skip
def fsOf (l : List (Nat × FSpec S.toNm)) : Nat → Option (FSpec S.toNm) := fun f => l.lookup f
theorem fs_nil {P : Program} : ∀ f F, fsOf (S := S) [] f = some F → FnOk P F f := fun _ _ h => by cases h
theorem fs_cons {P : Program} {l : List (Nat × FSpec S.toNm)} {f : Nat} {F : FSpec S.toNm} (h : FnOk P F f) (hl : ∀ f F, fsOf l f = some F → FnOk P F f) : ∀ f' F', fsOf ((f, F) :: l) f' = some F' → FnOk P F' f' := by
  intro f' F' h'
  simp only [fsOf, List.lookup_cons] at h'
  cases hf : f' == f
  · rw [hf] at h'; exact hl f' F' h'
  · rw [hf] at h'
    have : f' = f := by simpa using hf
    cases h'; subst this; exact h
end
end Go.Proofs.Ytdnkjfmneppkoaa.Vm
namespace Go.Proofs.Ytdnkjfmneppkoaa.Vm
open Go
section
variable {S : Cx} {α : Type}
def w64 (n : Int) : Int := IntKind.wrap .i64 n
def w8 (n : Int) : Int := IntKind.wrap .u8 n
def withinR (i : Int) (n : Nat) (κ : Nat → Option α) : Option α := mustR (decide (0 ≤ i)) (mustR (decide (i < (n : Int))) (κ i.toNat))
def room {β γ : Type} (l1 : List β) (l2 : List γ) : Bool := decide ((List.length l1 + List.length l2) * 4096 ≤ 140737488355328)
def fuel : Nat := 4611686018427387904
noncomputable def seqC (E : Env S) (h : Hint) (k : Nat) (c : Code) (κ : Exit → ST S → Option α) : Exit → ST S → Option α := seqK (run E h k c) (h.inn c) (h.out c) κ
noncomputable def outD (h : Hint) (c : Code) (κ : Exit → ST S → Option α) : Exit → ST S → Option α := outC (h.out c) κ
noncomputable def loopD (E : Env S) (h : Hint) (k : Nat) (c : Code) (κ : Exit → ST S → Option α) (n : Nat) : Exit → ST S → Option α := loopE (loopK (run E h k c) (h.inn c) κ n) (h.inn c) κ
def uK {γ : Type} (rb : ST S → γ → Option α) (st : ST S) (κ : γ) : Option α := match two with | true => rb st κ | false => none
theorem cut_u {γ : Type} (rb : ST S → γ → Option α) (st : ST S) (κ : γ) : cutK rb st κ = uK rb st κ := rfl
noncomputable abbrev loopL (E : Env S) (h : Hint) (k : Nat) (c : Code) (κ : Exit → ST S → Option α) (n : Nat) : ST S → Unit → Option α := fun st _ => loopK (run E h k c) (h.inn c) κ n st
theorem fn_none {P : Program} {F : FSpec S.toNm} {f : Nat} (h : ∀ x, F.f x = none) (ho : F.o = none := by rfl) (hp : F.p = none := by rfl) (hr : F.r = none := by rfl) (hl : F.l = none := by rfl) : FnOk P F f := .of (hl := hl) ho (fun w Z own vs x r h1 h2 h3 _ h4 => by rw [h x] at h4; cases h4) hp hr
structure Pr (S : Cx) (α : Type) where
  E : Env S
  h : Hint
  b : Code
  K : Exit → ST S → Option α
class Bt (T : Type) where
  bt : T
instance : Bt (Option α) := ⟨none⟩
instance {A B : Type} [Bt B] : Bt (A → B) := ⟨fun _ => Bt.bt⟩
def iter {T : Type} [Bt T] (F : T → T) : Nat → T
  | 0 => Bt.bt
  | n + 1 => F (iter F n)
end
end Go.Proofs.Ytdnkjfmneppkoaa.Vm
namespace Go.Proofs.Ytdnkjfmneppkoaa.Vm
open Go Go.RowKit
set_option linter.unusedVariables false
section
variable {S : Cx} {H : Type} {enc : TypeId × Value → H} {P : Program} {E : Env S}
def wfInt (k : IntKind) (n : Int) : Prop := k.min ≤ n ∧ n ≤ k.max
def Wf (S : Cx) : (t : Ty) → S.den t → Prop
  | .int k, n => wfInt k n
  | .str, s => List.length (α := UInt8) s ≤ maxLen
  | .slice _ t, l => List.length (α := S.den t) l ≤ maxLen ∧ ∀ y : S.den t, List.Mem y l → Wf S t y
  | .pair a b, x => Wf S a x.1 ∧ Wf S b x.2
  | .agg t, x => Wf S t x
  | .arr n t, l => List.length (α := S.den t) l = n ∧ ∀ y : S.den t, List.Mem y l → Wf S t y
  | _, _ => True
theorem cells_at {w : World} {a : Addr} {n : Nat} {cs : List Value} (hn : 0 < n) (h : w.cells? 0 a n = some cs) : a.spot = none ∧ a.block < w.heap.size ∧ cellsAt w a.block a.off n = some cs := by
  simp only [World.cells?, Nat.zero_le, if_true] at h
  have hl : cs.length = n := by simpa using mapM_some_length h
  have hg : ∀ i, i < n → w.cell? (a.add i) = cs[i]? := fun i hi => mapM_some_get h i i (by simp [hi])
  have h0 := hg 0 hn
  have e0 : a.add 0 = a := by simp [Addr.add]
  rw [e0, List.getElem?_eq_getElem (by omega)] at h0
  unfold World.cell? at h0
  cases hb : w.heap[a.block]? with
  | none => rw [hb] at h0; cases h0
  | some o =>
    rw [hb] at h0
    cases o with
    | cells c e f =>
      simp only at h0
      cases hs : a.spot with
      | some z => rw [hs] at h0; simp at h0
      | none =>
        have hc : ∀ i, i < n → c[a.off + i]? = cs[i]? := fun i hi => by
          rw [← hg i hi]
          unfold World.cell?
          by_cases hz : i = 0
          · subst hz; rw [e0, hb]; simp [hs]
          · simp only [Addr.add, if_neg hz, hb]; simp
        refine ⟨rfl, (Array.getElem?_eq_some_iff.1 hb).1, ?_⟩
        have hsz : a.off + n ≤ c.size := by
          have h1 := hc (n - 1) (by omega)
          rw [List.getElem?_eq_getElem (by omega)] at h1
          have := (Array.getElem?_eq_some_iff.1 h1).1
          omega
        unfold cellsAt
        rw [hb]
        simp only
        rw [if_pos hsz]
        congr 1
        apply List.ext_getElem?
        intro i
        by_cases hi : i < n
        · rw [← hc i hi, List.getElem?_take, if_pos hi, List.getElem?_drop]; simp
        · rw [List.getElem?_eq_none (by simp; omega), List.getElem?_eq_none (by omega)]
    | _ => cases h0
theorem lookup_cells (T : TysOk P E) {t : Nat} {ty : Ty} (h : E.tys.lookup t = some ty) : P.cellsOf t = S.size ty ∧ 0 < S.size ty := by
  obtain ⟨i, z, h1, h2, _⟩ := (T t ty h).info
  exact ⟨by simp [Program.cellsOf, h1, h2], (T t ty h).pos⟩
theorem args_len {S : Cx} {w : World} {Z : Nat → Prop} {own : Nat → Option Own} : ∀ (ps : List PK) (i : Nat) (vs : List Value) (y : S.den (packTy (argT ps))), ArgsR S w Z own i ps vs y → vs.length = ps.length
  | [], _, [], _, _ => rfl
  | p :: ps, i, v :: vs, y, h => by simp [args_len ps (i + 1) vs y.2 h.2]
  | [], _, _ :: _, _, h => h.elim
  | _ :: _, _, [], _, h => h.elim
theorem calls_true {F : FSpec S.toNm} {f : Nat} {fn : Func} {w : World} {vs : List Value} {x : S.den (packTy (argT F.ps))} {r : S.den (resTy F.rt (outT (outs F.ps)))}
    (hF : FnOk P F f) (hf : P.funcs[f]? = some fn) (hb : fn.body.isSome = true) (hname : (fn.name == "runtime.NumGoroutine") = false) (hA : ArgsR S w (fun b => b < w.heap.size) (fun _ => none) ioBase F.ps vs x) (hr : F.f x = some r)
    (Q : Value → Prop) (hQ : ∀ v w' Z own, ResR w' Z own F v r.1 → Q v) (ho : F.o = none := by rfl) (hG : GlobR S w (fun b => b < w.heap.size) := by exact globR_nil rfl) (hnf : F.ps.any PK.isFn = false := by rfl) (hp : F.p = none := by rfl) (hr0 : F.r = none := by rfl) (hl : F.l = none := by rfl) : Calls P f vs.toArray w fun e w' => ∃ v, e = .returned v ∧ Q v ∧ Below w.heap.size w w' := by
  have := hF.zero ho hp hr0 hl w (fun b => b < w.heap.size) (fun _ => none) vs x r (fun b hb => ⟨hb, rfl⟩) (fun b hb => by simp at hb) (by rw [flatV_none _ _ hnf (args_len _ _ _ _ hA)]; exact hA) hG hr
  have hnn : fn.body.isNone = false := by cases h : fn.body <;> simp_all
  have henter : (callFunc f vs.toArray).run P w = .ok (.enter f vs.toArray) w := by
    simp only [callFunc, Sem.run_bind, run_program, Result.andThen_ok, hf, hname, Bool.false_eq_true, if_false, hnn]
    rfl
  unfold Enters at this
  rw [henter] at this
  refine Calls.mono this fun e w' ⟨v, he, own', hL, hR, _⟩ => ⟨v, he, hQ v w' _ _ hR, hL.os, hL.tape, hL.output, hL.size, fun b hb => hL.block b hb rfl⟩
theorem wf_u8 {S : Cx} {n : Int} (h : Wf S (.int .u8) n) : 0 ≤ n ∧ n < 256 := by
  have h : wfInt .u8 n := h
  simp only [wfInt, IntKind.min, IntKind.max, IntKind.signed, IntKind.bits] at h
  simp at h; omega
end
end Go.Proofs.Ytdnkjfmneppkoaa.Vm
namespace Go.Proofs.Ytdnkjfmneppkoaa.Vm
open Go Go.RowKit
set_option linter.unusedVariables false
section
variable {S : Cx} {H : Type} {enc : TypeId × Value → H} {P : Program} {E : Env S}
structure Ub (H : Type) where
  f : DataW H → Nat
  str : ∀ s, s.length + 1 ≤ f (.lit (.string s))
  one : ∀ d, 1 ≤ f d
  slice : ∀ es sp, (es.map f).sum + 1 ≤ f (.slice es sp)
  agg : ∀ ps, (ps.map f).sum + 1 ≤ f (.agg ps)
structure Nb (S : Cx) where
  ok : Nat → Bool
  wf : (n : Nat) → S.N n → Prop
  bulk : (n : Nat) → S.N n → Nat
def WfB (N : Nb S) : (t : Ty) → S.den t → Prop
  | .int k, n => wfInt k n
  | .str, s => List.length (α := UInt8) s ≤ maxLen
  | .slice _ t, l => List.length (α := S.den t) l ≤ maxLen ∧ ∀ y : S.den t, List.Mem y l → WfB N t y
  | .pair a b, x => WfB N a x.1 ∧ WfB N b x.2
  | .agg t, x => WfB N t x
  | .arr n t, l => List.length (α := S.den t) l = n ∧ ∀ y : S.den t, List.Mem y l → WfB N t y
  | .named n, x => N.wf n x
  | _, _ => True
def bulkT (N : Nb S) : (t : Ty) → S.den t → Nat
  | .str, s => List.length (α := UInt8) s + 1
  | .slice _ t, l => (List.map (α := S.den t) (bulkT N t) l).sum + 1
  | .pair a b, x => bulkT N a x.1 + bulkT N b x.2
  | .agg t, x => bulkT N t x + 1
  | .named n, x => N.bulk n x
  | _, _ => 1
def plainB (N : Nb S) : Ty → Bool
  | .int _ => true
  | .bool => true
  | .str => true
  | .slice _ t => plainB N t
  | .pair a b => plainB N a && plainB N b
  | .agg t => plainB N t
  | .arr _ t => match t with
    | .int _ => true
    | _ => false
  | .named n => N.ok n
  | _ => false
structure Nb.Ok (N : Nb S) : Prop where
  cx : S.Ok
  plain : ∀ n, N.ok n = true → plainB N (S.body n) = true
  named : ∀ n, N.ok n = true → (S.body n).isNamed = false
  wf : ∀ n x, N.ok n = true → WfB N (S.body n) (S.out n x) → N.wf n x
  bulk : ∀ n x, N.ok n = true → N.bulk n x ≤ bulkT N (S.body n) (S.out n x)
def In2 (N : Nb S) (u : Ub H) (w : World) (ty : Ty) (cs : List Value) (d : DataW H) : Prop :=
  ∃ x : S.den ty, S.R w (fun b => b < w.heap.size) ty cs x ∧ WfB N ty x ∧ bulkT N ty x ≤ u.f d
theorem In2.rl {N : Nb S} {u : Ub H} {w : World} (hN : N.Ok) {ty : Ty} {cs : List Value} {d : DataW H} (hp : plainB N ty = true) (h : In2 N u w (S.un ty) cs d) : In2 N u w ty cs d := by
  obtain ⟨x, h1, h2, h3⟩ := h
  cases ty with
  | named n =>
    have x' : S.den (S.body n) := x
    have key : ∀ x : S.den (S.body n), S.R w (fun b => b < w.heap.size) (S.body n) cs x → WfB N (S.body n) x → bulkT N (S.body n) x ≤ u.f d → In2 N u w (.named n) cs d := fun x h1 h2 h3 => by
      have e := hN.cx.2.1 n x
      refine ⟨S.pk n x, Cx.R_rl (t := .named n) hN.cx h1, hN.wf n _ hp ?_, Nat.le_trans (hN.bulk n _ hp) ?_⟩
      · rw [e]; exact h2
      · rw [e]; exact h3
    exact key x h1 h2 h3
  | _ => exact ⟨x, h1, h2, h3⟩
theorem plain_un {N : Nb S} (hN : N.Ok) {ty : Ty} (hp : plainB N ty = true) : plainB N (S.un ty) = true ∧ (S.un ty).isNamed = false := by
  cases ty with
  | named n => exact ⟨hN.plain n hp, hN.named n hp⟩
  | _ => exact ⟨hp, rfl⟩
theorem sum_le {α β : Type} {f : α → Nat} {g : β → Nat} : ∀ {l : List α} {m : List β}, l.length = m.length → (∀ (i : Nat) x y, l[i]? = some x → m[i]? = some y → f x ≤ g y) → (l.map f).sum ≤ (m.map g).sum
  | [], [], _, _ => Nat.le_refl _
  | [], _ :: _, h, _ => by simp at h
  | _ :: _, [], h, _ => by simp at h
  | x :: l, y :: m, h, hl => by
    have := sum_le (l := l) (m := m) (by simpa using h) (fun i x y h1 h2 => hl (i + 1) x y (by simpa using h1) (by simpa using h2))
    have := hl 0 x y rfl rfl
    simp only [List.map_cons, List.sum_cons]; omega
theorem trod_in {N : Nb S} {u : Ub H} (T : TysOk P E) (hN : N.Ok) {w : World} {sp : Nat → Bool} {held : Bool} : ∀ (fuel : Nat) (ty : Ty), plainB N ty = true → ty.isNamed = false →
    ∀ (t : Nat) (cs : List Value) (r : DataW H × List MemPlace), E.tys.lookup t = some ty → DataW.trod enc P w 0 sp held fuel t cs = some r → In2 N u w ty cs r.1 := by
  intro fuel
  induction fuel with
  | zero => intro ty _ _ t cs r _ h; simp [DataW.trod] at h
  | succ m ih =>
    -- fields, one behind the other
    have fields : ∀ (ty : Ty), plainB N ty = true → ty.isNamed = false → ∀ (fs : List Field) (off : Nat) (cs : List Value) (xs : List (DataW H × List MemPlace)), FieldsOk S E fs ty off → cs.length = off + S.size ty → xs.length = fs.length →
        (∀ (i : Nat) (f : Field), fs[i]? = some f → ∃ r, xs[i]? = some r ∧ DataW.trod enc P w 0 sp held m f.type ((cs.drop f.offset).take (P.cellsOf f.type)) = some r) →
        ∃ x : S.den ty, S.R w (fun b => b < w.heap.size) ty (cs.drop off) x ∧ WfB N ty x ∧ bulkT N ty x ≤ ((xs.map (·.1)).map u.f).sum := by
      intro ty
      have single : ∀ {ty : Ty}, (∀ a b, ty ≠ .pair a b) → plainB N ty = true → ty.isNamed = false → ∀ (fs : List Field) (off : Nat) (cs : List Value) (xs : List (DataW H × List MemPlace)), FieldsOk S E fs ty off → cs.length = off + S.size ty → xs.length = fs.length →
          (∀ (i : Nat) (f : Field), fs[i]? = some f → ∃ r, xs[i]? = some r ∧ DataW.trod enc P w 0 sp held m f.type ((cs.drop f.offset).take (P.cellsOf f.type)) = some r) →
          ∃ x : S.den ty, S.R w (fun b => b < w.heap.size) ty (cs.drop off) x ∧ WfB N ty x ∧ bulkT N ty x ≤ ((xs.map (·.1)).map u.f).sum := by
        intro ty hnp hp hn fs off cs xs hf hl hxl hr
        have key : ∀ f, fs = [f] → FieldsOk S E [f] ty off → ∃ x : S.den ty, S.R w (fun b => b < w.heap.size) ty (cs.drop off) x ∧ WfB N ty x ∧ bulkT N ty x ≤ ((xs.map (·.1)).map u.f).sum := by
          intro f hfs hf1
          subst hfs
          obtain ⟨r, hx, hr⟩ := hr 0 f rfl
          have hf2 : f.offset = off ∧ E.tys.lookup f.type = some ty ∧ 0 < S.size ty := by
            cases ty with
            | pair a b => exact absurd rfl (hnp a b)
            | _ => exact hf1
          obtain ⟨h1, h2, h3⟩ := hf2
          rw [h1, (lookup_cells T h2).1, List.take_of_length_le (by rw [List.length_drop]; omega)] at hr
          obtain ⟨x, k1, k2, k3⟩ := ih ty hp hn _ _ _ h2 hr
          refine ⟨x, k1, k2, ?_⟩
          match xs, hxl, hx with
          | [r'], _, hx =>
            cases hx
            simpa using k3
        rcases fs with _ | ⟨f, _ | ⟨g, fs⟩⟩
        · cases ty <;> exact hf.elim
        · exact key f rfl hf
        · cases ty with
          | pair a b => exact absurd rfl (hnp a b)
          | _ => exact hf.elim
      induction ty with
      | pair a b iha ihb =>
        intro hp hn fs off cs xs hf hl hxl hr
        simp only [plainB, Bool.and_eq_true] at hp
        rcases fs with _ | ⟨f, _ | ⟨g, fs⟩⟩
        · exact hf.elim
        · exact hf.elim
        rcases xs with _ | ⟨x0, xs⟩
        · simp at hxl
        · skip
          obtain ⟨h1, h2, h3, h4⟩ := hf
          have hl' : cs.length = off + (S.size a + S.size b) := hl
          obtain ⟨r, hx, hr0⟩ := hr 0 f rfl
          have hx : x0 = r := Option.some.inj hx
          subst hx
          rw [h1, (lookup_cells T h2).1] at hr0
          have hna : a.isNamed = false := by
            have := (T _ _ h2).und
            cases a with
            | named n => exact this.elim
            | _ => rfl
          obtain ⟨x, hx, hxw, hxb⟩ := ih a hp.1 hna _ _ _ h2 hr0
          have hnb : b.isNamed = false := by
            cases b with
            | named n =>
              cases fs with
              | nil => exact ((T _ _ h4.2.1).und).elim
              | cons _ _ => exact h4.elim
            | _ => rfl
          obtain ⟨y, hy, hyw, hyb⟩ := ihb hp.2 hnb (g :: fs) (off + S.size a) cs xs h4 (by omega) (by simpa using hxl) (fun i f' hf' => by
            obtain ⟨r, e1, e2⟩ := hr (i + 1) f' (by simpa using hf')
            exact ⟨r, by simpa using e1, e2⟩)
          refine ⟨(x, y), Cx.R_pair.2 ⟨(cs.drop off).take (S.size a), cs.drop (off + S.size a), ?_, ?_, hx, hy⟩, ⟨hxw, hyw⟩, ?_⟩
          · rw [← List.drop_drop, List.take_append_drop]
          · rw [List.length_take, List.length_drop]; omega
          · simp only [bulkT, List.map_cons, List.sum_cons]; omega
      | _ => exact single (by intros; simp)
    intro ty hp hn t cs r ht h
    cases ty with
    | int k =>
      obtain ⟨n, rfl, rfl, hw⟩ := DataW.trod_int (T t _ ht).und h
      simp only [Lit.wf, Bool.and_eq_true, decide_eq_true_eq] at hw
      exact ⟨n, Cx.R_int.2 rfl, hw, u.one _⟩
    | bool =>
      obtain ⟨b, rfl, rfl⟩ := DataW.trod_bool (T t _ ht).und h
      exact ⟨b, Cx.R_bool.2 rfl, trivial, u.one _⟩
    | str =>
      obtain ⟨s, rfl, rfl, hs⟩ := DataW.trod_string (T t _ ht).und h
      exact ⟨s.data.toList, Cx.R_str.2 (by rw [str_eta]), by simpa [WfB] using hs, u.str _⟩
    | slice e v =>
      obtain ⟨hu, he, hpos⟩ := (T t _ ht).und
      have hce := (lookup_cells T he).1
      rw [Cx.size_un hN.cx] at hce
      obtain ⟨hpu, hnu⟩ := plain_un hN (ty := v) hp
      rcases DataW.trod_slice hu h with ⟨rfl, rfl⟩ | ⟨a, len, cap, elems, rest, n, hfu, rfl, rfl, _, hlc, hcm, hel, hget, _⟩
      · exact ⟨[], Cx.R_slice.2 ⟨none, 0, rfl, Nat.le_refl _, fun i y hy => by simp [nth] at hy⟩, ⟨by simp [maxLen], fun y hy => by cases hy⟩, u.one _⟩
      · have hfu : m = n := by omega
        subst hfu
        have hall : ∀ i, i < len → ∃ x : S.den v, WfB N v x ∧ a.spot = none ∧ (∀ r, elems[i]? = some r → bulkT N v x ≤ u.f r.1) ∧ ∃ cs', a.block < w.heap.size ∧ cellsAt w a.block (a.off + i * S.size v) (S.size v) = some cs' ∧ S.R w (fun b => b < w.heap.size) v cs' x := by
          intro i hi
          have hg := hget i hi
          rw [List.getElem?_eq_getElem (by omega), hce] at hg
          obtain ⟨cs', hc, ht'⟩ := Option.bind_eq_some_iff.1 hg
          obtain ⟨h1, h2, h3⟩ := cells_at hpos hc
          obtain ⟨x, hx, hw, hb⟩ := In2.rl (ty := v) hN hp (ih (S.un v) hpu hnu e cs' _ he ht')
          have h0 : a.spot = none := by
            have hg := hget 0 (by omega)
            rw [List.getElem?_eq_getElem (by omega), hce] at hg
            obtain ⟨cs0, hc0, _⟩ := Option.bind_eq_some_iff.1 hg
            have := (cells_at hpos hc0).1
            simpa [Addr.add] using this
          refine ⟨x, hw, h0, fun r hr => ?_, cs', ?_, ?_, hx⟩
          · rw [List.getElem?_eq_getElem (by omega)] at hr
            cases hr; exact hb
          · have : (a.add (i * S.size v)).block = a.block := by unfold Addr.add; split <;> rfl
            rw [← this]; exact h2
          · have e1 : (a.add (i * S.size v)).block = a.block := by unfold Addr.add; split <;> rfl
            have e2 : (a.add (i * S.size v)).off = a.off + i * S.size v := by
              unfold Addr.add; split
              · omega
              · rfl
            rw [← e1, ← e2]; exact h3
        have hx : ∃ l : List (S.den v), l.length = len ∧ ∀ i x, l[i]? = some x → WfB N v x ∧ a.spot = none ∧ (∀ r, elems[i]? = some r → bulkT N v x ≤ u.f r.1) ∧ ∃ cs', a.block < w.heap.size ∧ cellsAt w a.block (a.off + i * S.size v) (S.size v) = some cs' ∧ S.R w (fun b => b < w.heap.size) v cs' x := by
          refine ⟨List.ofFn (n := len) (fun i => (hall i.1 i.2).choose), by simp, fun i x hi => ?_⟩
          rw [List.getElem?_ofFn] at hi
          split at hi
          · rename_i hlt
            cases hi
            exact (hall i hlt).choose_spec
          · cases hi
        obtain ⟨l, hl, hel2⟩ := hx
        subst hl
        refine ⟨l, Cx.R_slice.2 ⟨some a, cap, rfl, hlc, fun i y hy => ?_⟩, ⟨by simp only [maxLen] at *; omega, fun y hy => ?_⟩, ?_⟩
        · obtain ⟨_, h0, _, cs', h1, h2, h3⟩ := hel2 i y hy
          refine ⟨a.block, a.off, cs', ?_, h1, h2, h3⟩
          cases a; simp only at h0; subst h0; rfl
        · obtain ⟨i, hi⟩ := List.getElem?_of_mem hy
          exact (hel2 i y hi).1
        · refine Nat.le_trans ?_ (u.slice _ _)
          have : (List.map (bulkT N v) l).sum ≤ (List.map u.f (elems.map (·.1))).sum := by
            rw [List.map_map]
            exact sum_le (by rw [hel]) fun i x r hi hr => (hel2 i x hi).2.2.1 r hr
          simp only [bulkT]; omega
    | agg v =>
      rcases (T t _ ht).und with ⟨fs, hu, hf⟩ | ⟨k, v', e, rfl, hu, hl, hpos⟩
      case inr =>
        cases v' with
        | int kk =>
          obtain ⟨xs, m', _, _, hcl, hxl, hget⟩ := DataW.trod_array hu h
          rw [(lookup_cells T ht).1] at hcl
          have hce : P.cellsOf e = 1 := (lookup_cells T hl).1
          have hsz : S.size (Ty.agg (.arr k (.int kk))) = k * 1 := rfl
          rw [hsz] at hcl
          have hall : ∀ i, i < k → ∃ x : Int, wfInt kk x ∧ (cs.drop (i * 1)).take 1 = [Value.int kk x] := by
            intro i hi
            have hg := hget i hi
            rw [List.getElem?_eq_getElem (by omega), hce] at hg
            obtain ⟨x, hx, _, hw⟩ := DataW.trod_int (T e _ hl).und hg
            simp only [Lit.wf, Bool.and_eq_true, decide_eq_true_eq] at hw
            exact ⟨x, hw, hx⟩
          have hx : ∃ l : List Int, l.length = k ∧ ∀ (i : Nat) (y : Int), l[i]? = some y → wfInt kk y ∧ (cs.drop (i * 1)).take 1 = [Value.int kk y] := by
            refine ⟨List.ofFn (n := k) (fun i => (hall i.1 i.2).choose), by simp, fun i x hi => ?_⟩
            rw [List.getElem?_ofFn] at hi
            split at hi
            · rename_i hlt
              cases hi
              exact (hall i hlt).choose_spec
            · cases hi
          obtain ⟨l, hll, hel⟩ := hx
          obtain ⟨xs2, m2, _, he2, _⟩ := DataW.trod_array hu h
          refine ⟨l, Cx.R_agg.2 (Cx.R_arr.2 ⟨hll, hcl, fun i y hy => Cx.R_int.2 (hel i y hy).2⟩), ⟨hll, fun y hy => ?_⟩, ?_⟩
          · obtain ⟨i, hi⟩ := List.getElem?_of_mem hy
            exact (hel i y hi).1
          · rw [he2]
            have hb : bulkT N (Ty.agg (.arr k (.int kk))) l = 1 + 1 := rfl
            by_cases hk : k = 0
            · subst hk; exact absurd hpos (by have := (lookup_cells T ht).2; rw [hsz] at this; omega)
            · have hx2 : 0 < xs2.length := by
                have := DataW.trod_array hu h
                obtain ⟨xs3, m3, _, he3, _, hx3, _⟩ := this
                rw [he2] at he3
                have : xs2.map (·.1) = xs3.map (·.1) := by injection he3 with e1 _; injection e1
                have := congrArg List.length this
                simp at this; omega
              refine Nat.le_trans ?_ (u.agg _)
              rw [hb]
              match xs2, hx2 with
              | y :: ys, _ =>
                have := u.one y.1
                simp only [List.map_cons, List.sum_cons]; omega
        | _ => cases hp
      obtain ⟨xs, n, hfu, hre, hcl, hxl, hget⟩ := DataW.trod_struct hu h
      have hfu : m = n := by omega
      subst hfu
      have hnv : v.isNamed = false := by
        cases v with
        | named n =>
          match hfs : fs.toList, hf with
          | [f], hf => exact ((T _ _ hf.2.1).und).elim
          | [], hf => exact hf.elim
          | _ :: _ :: _, hf => exact hf.elim
        | _ => rfl
      obtain ⟨x, hx, hw, hb⟩ := fields v hp hnv fs.toList 0 cs xs hf (by rw [hcl, (lookup_cells T ht).1]; simp [Nm.size]) (by rw [hxl]; simp) (fun i f hi => by
        have hi' : fs[i]? = some f := by simpa using hi
        have := hget i f hi'
        have hlt : i < xs.length := by
          rw [hxl]; exact (Array.getElem?_eq_some_iff.1 hi').1
        rw [List.getElem?_eq_getElem hlt] at this
        exact ⟨_, List.getElem?_eq_getElem hlt, this⟩)
      refine ⟨x, Cx.R_agg.2 hx, hw, ?_⟩
      rw [hre]
      refine Nat.le_trans ?_ (u.agg _)
      simp only [bulkT]; omega
    | ptr n => cases hp
    | lptr n => cases hp
    | named n => cases hn
    | unit => cases hp
    | arr n v => exact ((T t _ ht).und).elim
    | box t => cases hp
    | clo f t => cases hp
    | map k v => cases hp
    | pair a b => exact ((T t _ ht).und).elim
theorem arg_in2 {N : Nb S} {u : Ub H} (T : TysOk P E) (hN : N.Ok) {w : World} {sp : Nat → Bool} {held : Bool} {t : Nat} {ty : Ty} {v : Value} {d : DataW H} {ps : List MemPlace} {rc : Reach} {b0 : Nat} (ht : E.tys.lookup t = some ty) (hp : plainB N ty = true)
    (hv : Value.okWide P w rc b0 t v) (h : DataW.Trod enc P w 0 sp held t v d ps) : ∃ x : S.den ty, (∃ cs, VS ty v cs ∧ S.R w (fun b => b < w.heap.size) ty cs x) ∧ WfB N ty x ∧ bulkT N ty x ≤ u.f d := by
  obtain ⟨fuel, h⟩ := h
  have hund := (T t ty ht).und
  have hn : ty.isNamed = false := by cases ty <;> first | rfl | exact hund.elim
  obtain ⟨x, hx, hw, hb⟩ := trod_in (enc := enc) (u := u) T hN fuel ty hp hn t _ _ ht h
  refine ⟨x, ⟨v.cells.toList, ?_, hx⟩, hw, hb⟩
  cases ty with
  | lptr n => cases hp
  | int k => obtain ⟨n, rfl⟩ := WideShapes.okWide_int hund hv; rfl
  | bool => obtain ⟨n, rfl⟩ := WideShapes.okWide_bool hund hv; rfl
  | str => obtain ⟨n, rfl⟩ := WideShapes.okWide_string hund hv; rfl
  | slice e u => obtain ⟨a, l, c, rfl⟩ := WideShapes.okWide_slice hund.1 hv; rfl
  | agg u =>
    rcases hund with ⟨fs, h1, _⟩ | ⟨_, _, _, _, h1, _⟩
    · obtain ⟨cs, rfl, _⟩ := WideShapes.okWide_struct h1 hv; simp [VS, Ty.isAgg, Value.cells]
    · simp only [Value.okWide, h1] at hv
      obtain ⟨cs, rfl, _⟩ := hv
      simp [VS, Ty.isAgg, Value.cells]
  | arr n t => exact hund.elim
  | box t => cases hp
  | clo f t => cases hp
  | map k v => cases hp
  | pair a b => exact hund.elim
  | ptr n => cases hp
  | named n => cases hn
  | unit => cases hp
end
end Go.Proofs.Ytdnkjfmneppkoaa.Vm
