/- A reader of the model s code over plain data, and that it is right of the machine (2). -/
import Derived.Test.YtpmlimdilajidaaDoorVm1
import Derived.MapKept
import Derived.WideKeyRuns
import Derived.Laws.AppendOwn
import Derived.Orders
import Derived.OrdersHeld
import Derived.LoopN
import Derived.WalkKit
import Derived.ProofKit
import Derived.OpenShut
import Derived.ShutString
import Derived.ChangeOld
import Derived.Below
import Derived.SizedLaws
namespace Go.Proofs.YtpmlimdilajidaaDoor.Vm
open Go Go.RowKit
set_option linter.unusedVariables false

section
variable {S : Cx} {α : Type} {g : Gl S} {own : Nat → Option Own} {st : ST S} {a : Act} {w : World}

/-- A block in nobody's hands becomes a memory, with what is in nobody's hands. -/
theorem Rel.asMem (h : Rel g own st a w) (hn : Hint) {d : Nat} (hpin : g.pin d = none) (hd : d < a.tmps.size) {c : MV S.toNm} {b0 : Nat} {cells : Array Value} {e : TypeId} (hb0 : own b0 = some (.lim, none))
    (hcell : w.heap[b0]? = some (.cells cells e (0, 0))) (hO : S.OW w own (g.Z own w) .lim c.t c.m [] cells.toList c.x) :
    ∃ own', Rel g own' (st.newMem hn d c) (a.put (some d) (.pointer (some ⟨b0, 0, none⟩))) w := by
  let own1 := relab own .lim [] (.mem d) []
  have hnone1 : ∀ b, own b = none → own1 b = none := fun b hb => by
    show relab own .lim [] (.mem d) [] b = none
    rw [relab_ne (by rintro ⟨s, e⟩; rw [hb] at e; cases e)]; exact hb
  have h1 : Rel g own1 st a w := h.lim fun b => by
    by_cases hb : ∃ s, own b = some (.lim, some ([] ++ s))
    · obtain ⟨s, hb⟩ := hb
      refine .inr ⟨⟨_, hb⟩, ?_, fun k => ?_⟩ <;> rw [show own1 b = _ from relab_at hb] <;> simp
    · exact .inl (relab_ne hb)
  have hb1 : own1 b0 = some (.lim, none) := by
    show relab own .lim [] (.mem d) [] b0 = _
    rw [relab_ne (by rintro ⟨s, e⟩; rw [hb0] at e; cases e)]; exact hb0
  have hO1 : S.OW w own1 (g.Z own1 w) (.mem d) c.t c.m [] cells.toList c.x :=
    OW_frame (fun b hb => ⟨hb.1, hb.2.1, hnone1 b hb.2.2⟩) (fun _ _ => rfl) _ _ _ _ _ _ (fun b q hb => ⟨relab_at hb, rfl⟩) hO
  let own2 : Nat → Option Own := fun b => if b = b0 then some (.mem d, none) else if own1 b = some (.mem d, none) then some (.lim, none) else own1 b
  have o_new : own2 b0 = some (.mem d, none) := by simp [own2]
  have o_old : ∀ b, b ≠ b0 → own1 b ≠ some (.mem d, none) → own2 b = own1 b := fun b hb hne => by simp [own2, hb, hne]
  have o_none : ∀ b, own1 b = none → own2 b = none := fun b hb => by
    rw [o_old b (fun e => by rw [e, hb1] at hb; cases hb) (by rw [hb]; simp)]; exact hb
  have o_some : ∀ b r q, own1 b = some (r, some q) → own2 b = some (r, some q) := fun b r q hb => by
    rw [o_old b (fun e => by rw [e, hb1] at hb; cases hb) (by rw [hb]; simp), hb]
  have o_mem : ∀ k b, k ≠ d → own1 b = some (.mem k, none) → own2 b = some (.mem k, none) := fun k b hk hb => by
    rw [o_old b (fun e => by rw [e, hb1] at hb; cases hb) (by rw [hb]; simpa using hk), hb]
  have o_mem' : ∀ k b, k ≠ d → own2 b = some (.mem k, none) → own1 b = some (.mem k, none) := fun k b hk hb => by
    simp only [own2] at hb
    split at hb
    · simp at hb; exact absurd hb.symm hk
    · split at hb
      · simp at hb
      · exact hb
  have o_d : ∀ b, own2 b = some (.mem d, none) → b = b0 := fun b hb => by
    simp only [own2] at hb
    split at hb
    · assumption
    · split at hb
      · simp at hb
      · rename_i hne; exact absurd hb hne
  have o_ne : ∀ b, own2 b ≠ none → own1 b ≠ none := fun b hb e => hb (o_none b e)
  have hZ : ∀ b, g.Z own1 w b → g.Z own2 w b := fun b hb => ⟨hb.1, hb.2.1, o_none b hb.2.2⟩
  have hOW : ∀ {r : Root} {t : Ty} {m : Mode} {p : Path} {cs' : List Value} {x : S.den t}, S.OW w own1 (g.Z own1 w) r t m p cs' x →
      S.OW w own2 (g.Z own2 w) r t m p cs' x := fun hO => OW_frame hZ (fun _ _ => rfl) _ _ _ _ _ _ (fun b q hb => ⟨o_some b _ _ hb, rfl⟩) hO
  let st2 : ST S := { st.drop (.mem d) with mems := upd st.mems d c }
  have hlook : ∀ i, st2.look i = .dead ∨ (st2.look i = st.look i ∧ (st.look i).rooted (.mem d) = false) := fun i => by
    have e : st2.look i = (st.drop (.mem d)).look i := rfl
    rw [e, St.drop, look_killBy _ _ _ rfl]
    cases hh : (st.look i).rooted (.mem d)
    · exact .inr ⟨rfl, rfl⟩
    · exact .inl rfl
  have hroot : ∀ r, r ≠ .mem d → st2.root r = st.root r := fun r hr => by
    cases r with
    | slot s =>
      have : st2.root (.slot s) = (st.drop (.mem d)).root (.slot s) := rfl
      rw [this]; exact root_killBy st _ (fun _ _ _ => rfl) rfl _
    | mem k =>
      have hk : k ≠ d := fun e => hr (by rw [e])
      simp only [St.root, st2, lookup_upd, if_neg hk]
    | lim => rfl
  have hrd : st2.root (.mem d) = some c := by simp [St.root, st2, lookup_upd]
  have hplace : ∀ {r p l cs' c'}, r ≠ .mem d → Place st own1 a w r p l cs' c' → Place st2 own2 a w r p l cs' c' := fun hr hp =>
    Place_own hp (hroot _ hr) (fun _ _ => rfl) (fun k b he hb => o_mem k b (fun e => hr (by rw [he, e])) hb)
  have hrel : Rel g own2 st2 a w := by
    refine ⟨h1.os, h1.tape, h1.output, h1.size, h1.block, fun b hb => h1.fresh b (o_ne b hb), fun i => ?_, fun k c' hk => ?_, h1.defs, fun k b b' hp hb => h1.pins k b b' hp (o_mem' k b' (fun e => by rw [e, hpin] at hp; cases hp) hb)⟩
    · rcases hlook i with e' | ⟨e', hr⟩
      · rw [e']; trivial
      · rw [e']
        have hv := h1.vals i
        generalize st.look i = A at *
        cases A with
        | dead => trivial
        | und => exact hv
        | v t m y => obtain ⟨cs', e1, e2⟩ := hv; exact ⟨cs', e1, hOW e2⟩
        | tup t m y => obtain ⟨vs, e1, e2⟩ := hv; exact ⟨vs, e1, TupR_frame hZ (fun _ _ => rfl) _ _ _ e2⟩
        | rp t y =>
          obtain ⟨b, off, cs', e1, e2, e3, e4⟩ := hv
          exact ⟨b, off, cs', e1, hZ b e2, e3, e4.frame hZ (fun _ _ => rfl)⟩
        | ref r p =>
          obtain ⟨l, cs', c', e1, e2⟩ := hv
          exact ⟨l, cs', c', hplace (fun e => by subst e; simp [AVal.rooted] at hr) e1, e2⟩
        | addr r p =>
          obtain ⟨b, off, cs', c', e1, e2⟩ := hv
          exact ⟨b, off, cs', c', hplace (fun e => by subst e; simp [AVal.rooted] at hr) e1, e2⟩
    · by_cases hkd : k = d
      · subst hkd
        have : c' = c := by
          have hk' : st2.root (.mem k) = some c' := hk
          rw [hrd] at hk'; exact (Option.some.inj hk').symm
        subst this
        exact ⟨b0, e, cells, o_new, hcell, hOW hO1, o_d⟩
      · have hk' : st2.root (.mem k) = some c' := hk
        rw [hroot _ (by simpa using hkd)] at hk'
        obtain ⟨b, e', cells, g1, g2, g3, g4⟩ := h1.mems k c' hk'
        exact ⟨b, e', cells, o_mem k b hkd g1, g2, hOW g3, fun b' hb' => g4 b' (o_mem' k b' hkd hb')⟩
  refine ⟨own2, ?_⟩
  have : st.newMem hn d c = st2.put hn d (.addr (.mem d) []) := rfl
  rw [this]
  refine hrel.put hn hd ⟨b0, 0, cells.toList, c, ?_, rfl⟩
  refine ⟨c.t, c.m, c.x, some (b0, 0), cells.toList, ?_, (fun s hs => by cases hs), ⟨b0, e, cells, rfl, o_new, hcell, rfl⟩, okP_nil, nav_nil, getP_nil⟩
  have : (st2.put hn d (.addr (.mem d) [])).root (.mem d) = st2.root (.mem d) := by simp only [St.root, put_mems]
  rw [this, hrd]

/-- A memory's blocks go into nobody's hands. -/
noncomputable def limmem (own : Nat → Option Own) (k : Nat) : Nat → Option Own := fun b => match own b with
  | some (.mem i, q) => if i = k then some (.lim, q) else some (.mem i, q)
  | o => o
theorem limmem_at {own : Nat → Option Own} {k b : Nat} {q : Option Path} (h : own b = some (.mem k, q)) : limmem own k b = some (.lim, q) := by simp only [limmem, h, if_pos]
theorem limmem_ne {own : Nat → Option Own} {k b : Nat} (h : ∀ q, own b ≠ some (.mem k, q)) : limmem own k b = own b := by
  unfold limmem
  split
  · rename_i i q e
    rw [if_neg (fun hi => h q (by rw [e, hi]))]; exact e.symm
  · rfl
theorem limmem_none {own : Nat → Option Own} {k b : Nat} (h : own b = none) : limmem own k b = none := by
  rw [limmem_ne (fun q e => by rw [h] at e; cases e)]; exact h
theorem limmem_keep {own : Nat → Option Own} {k b : Nat} {r : Root} {q : Option Path} (h : own b = some (r, q)) (hr : r ≠ .mem k) : limmem own k b = some (r, q) := by
  rw [limmem_ne (fun q' e => by rw [h] at e; exact hr (Prod.mk.inj (Option.some.inj e)).1)]; exact h
theorem limmem_inv {own : Nat → Option Own} {k b i : Nat} {q : Option Path} (h : limmem own k b = some (.mem i, q)) : own b = some (.mem i, q) := by
  by_cases he : ∃ q, own b = some (.mem k, q)
  · obtain ⟨q', he⟩ := he
    rw [limmem_at he] at h; cases h
  · rw [limmem_ne (fun q e => he ⟨q, e⟩)] at h; exact h
theorem limmem_some {own : Nat → Option Own} {k b : Nat} (h : limmem own k b ≠ none) : own b ≠ none := fun e => h (limmem_none e)

theorem Rel.limLess (h : Rel g own st a w) (k : Nat) : Rel g (limmem own k) (st.less k) a w := by
  have hZ : ∀ b', g.Z own w b' → g.Z (limmem own k) w b' := fun b' hb => ⟨hb.1, hb.2.1, limmem_none hb.2.2⟩
  have hlook : ∀ i, (st.less k).look i = .dead ∨ ((st.less k).look i = st.look i ∧ (st.look i).rooted (.mem k) = false) := fun i => by
    have e : (st.less k).look i = (st.drop (.mem k)).look i := rfl
    rw [e, St.drop, look_killBy _ _ _ rfl]
    cases hh : (st.look i).rooted (.mem k)
    · exact .inr ⟨rfl, rfl⟩
    · exact .inl rfl
  have hroot : ∀ r, r ≠ .mem k → (st.less k).root r = st.root r := fun r hr => by
    cases r with
    | slot s =>
      have : (st.less k).root (.slot s) = (st.drop (.mem k)).root (.slot s) := rfl
      rw [this]; exact root_killBy st _ (fun _ _ _ => rfl) rfl _
    | mem k' =>
      have hk' : k' ≠ k := fun e => hr (by rw [e])
      simp only [St.root, St.less, lookup_less, if_neg hk']
    | lim => rfl
  have hplace : ∀ {r p l cs' c'}, r ≠ .mem k → Place st own a w r p l cs' c' → Place (st.less k) (limmem own k) a w r p l cs' c' := fun hr hp =>
    Place_own hp (hroot _ hr) (fun _ _ => rfl) (fun k' b he hb' => limmem_keep hb' (by rw [← he]; exact hr))
  refine ⟨h.os, h.tape, h.output, h.size, h.block, fun b' hb' => h.fresh b' (limmem_some hb'), fun i => ?_, fun k' c' hk' => ?_, h.defs, fun k' b1 b2 hp hb2 => h.pins k' b1 b2 hp (limmem_inv hb2)⟩
  · rcases hlook i with e | ⟨e, hr⟩
    · rw [e]; trivial
    · rw [e]
      have hv := h.vals i
      generalize st.look i = A at *
      cases A with
      | dead => trivial
      | und => exact hv
      | v t m y =>
        obtain ⟨cs', e1, e2⟩ := hv
        exact ⟨cs', e1, OW_frame hZ (fun _ _ => rfl) _ _ _ _ _ _ (fun b' q hb' => ⟨limmem_keep hb' (by simp), rfl⟩) e2⟩
      | tup t m y => obtain ⟨vs, e1, e2⟩ := hv; exact ⟨vs, e1, TupR_frame hZ (fun _ _ => rfl) _ _ _ e2⟩
      | rp t y =>
        obtain ⟨b', off', cs', e1, e2, e3, e4⟩ := hv
        exact ⟨b', off', cs', e1, hZ b' e2, e3, e4.frame hZ (fun _ _ => rfl)⟩
      | ref r p =>
        obtain ⟨l, cs', c', e1, e2⟩ := hv
        exact ⟨l, cs', c', hplace (fun e => by subst e; simp [AVal.rooted] at hr) e1, e2⟩
      | addr r p =>
        obtain ⟨b', off', cs', c', e1, e2⟩ := hv
        exact ⟨b', off', cs', c', hplace (fun e => by subst e; simp [AVal.rooted] at hr) e1, e2⟩
  · have hkk : k' ≠ k := fun e => by subst e; simp [St.less, lookup_less] at hk'
    have hk'' : st.mems.lookup k' = some c' := by simpa [St.less, lookup_less, hkk] using hk'
    obtain ⟨b', e', cells', g1', g2', g3', g4'⟩ := h.mems k' c' hk''
    have hne : Root.mem k' ≠ .mem k := by simpa using hkk
    exact ⟨b', e', cells', limmem_keep g1' hne, g2', OW_frame hZ (fun _ _ => rfl) _ _ _ _ _ _ (fun b'' q hb'' => ⟨limmem_keep hb'' hne, rfl⟩) g3', fun b'' hb'' => g4' b'' (limmem_inv hb'')⟩

/-- A row in nobody's hands is handed to a call; new memory may be in nobody's hands behind it. -/
theorem Rel.limCall (h : Rel g own st a w) {w' : World} {own' : Nat → Option Own} (b0 : Option Nat) (hos : w'.os = w.os) (htape : w'.tape = w.tape) (hout : w'.output = w.output) (hsize : w.heap.size ≤ w'.heap.size)
    (hb0 : ∀ b, b0 = some b → ∃ q, own b = some (.lim, q)) (hblk : ∀ b, b < w.heap.size → b0 ≠ some b → w'.heap[b]? = w.heap[b]?)
    (hown : ∀ b, b < w.heap.size → own' b = own b) (hnew : ∀ b, w.heap.size ≤ b → own' b ≠ none → b < w'.heap.size ∧ ∃ q, own' b = some (.lim, q)) : Rel g own' (st.killBy AVal.deep) a w' := by
  have hlt : ∀ b, own b ≠ none → b < w.heap.size := fun b hb => (h.fresh b hb).2
  have hso : ∀ b r q, own b = some (r, q) → own' b = some (r, q) := fun b r q hb => by rw [hown b (hlt b (by rw [hb]; simp))]; exact hb
  have hnot : ∀ b, (∀ q, own b ≠ some (.lim, q)) → b0 ≠ some b := fun b hb e => by obtain ⟨q, hq⟩ := hb0 b e; exact hb q hq
  have hZ : ∀ b, g.Z own w b → g.Z own' w' b := fun b hb => ⟨hb.1, Nat.lt_of_lt_of_le hb.2.1 hsize, by rw [hown b hb.2.1]; exact hb.2.2⟩
  have hZw : ∀ b, g.Z own w b → w'.heap[b]? = w.heap[b]? := fun b hb => hblk b hb.2.1 (hnot b (fun q e => by rw [hb.2.2] at e; cases e))
  have hne : ∀ b' r q', own b' = some (r, q') → r ≠ .lim → w'.heap[b']? = w.heap[b']? := fun b' r q' hb' hr => hblk b' (hlt b' (by rw [hb']; simp)) (hnot b' (fun q e => by
    rw [hb'] at e; exact hr (Prod.mk.inj (Option.some.inj e)).1))
  have hmem : ∀ k b, own' b = some (.mem k, none) → own b = some (.mem k, none) := fun k b hb => by
    by_cases hbw : b < w.heap.size
    · rw [← hown b hbw]; exact hb
    · obtain ⟨_, q, e⟩ := hnew b (by omega) (by rw [hb]; simp)
      rw [hb] at e; cases e
  have hroot : ∀ r', (st.killBy AVal.deep).root r' = st.root r' := fun r' => root_killBy st _ (fun _ _ _ => rfl) rfl r'
  have hRoot : ∀ r' t l cs', RootAt own a w r' t l cs' → RootAt own' a w' r' t l cs' := fun r' t l cs' hR => by
    cases r' with
    | slot s => exact hR
    | lim => exact hR
    | mem k =>
      obtain ⟨b', e', cl, f1, f2, f3, f4⟩ := hR
      exact ⟨b', e', cl, f1, hso _ _ _ f2, by rw [hne b' _ _ f2 (by simp)]; exact f3, f4⟩
  have hOW : ∀ {r : Root} {t : Ty} {m : Mode} {p : Path} {cs' : List Value} {x : S.den t}, r ≠ .lim → S.OW w own (g.Z own w) r t m p cs' x → S.OW w' own' (g.Z own' w') r t m p cs' x := fun hr hO =>
    OW_frame hZ hZw _ _ _ _ _ _ (fun b' q' hb' => ⟨hso _ _ _ hb', hne b' _ _ hb' hr⟩) hO
  refine ⟨hos.trans h.os, htape.trans h.tape, hout.trans h.output, Nat.le_trans h.size hsize, fun b' hb' hio => ?_, fun b' hb' => ?_, fun i => ?_, fun k c hk => ?_, h.defs, fun k b b' hp hb => h.pins k b b' hp (hmem k b' hb)⟩
  · refine (hblk b' (Nat.lt_of_lt_of_le hb' h.size) fun e => ?_).trans (h.block b' hb' hio)
    obtain ⟨q, hq⟩ := hb0 b' e
    rcases (h.fresh b' (by rw [hq]; simp)).1 with hf | hf
    · omega
    · exact hio hf
  · by_cases hbw : b' < w.heap.size
    · have : own b' ≠ none := by rw [← hown b' hbw]; exact hb'
      exact ⟨(h.fresh b' this).1, Nat.lt_of_lt_of_le hbw hsize⟩
    · exact ⟨.inl (Nat.le_trans h.size (by omega)), (hnew b' (by omega) hb').1⟩
  · rw [look_killBy _ _ _ rfl]
    have hv := h.vals i
    cases hd : (st.look i).deep
    · simp only
      generalize st.look i = A at *
      cases A with
      | dead => trivial
      | und => exact hv
      | v t' m'' y =>
        obtain ⟨cs', e1, e2⟩ := hv
        exact ⟨cs', e1, hOW (by simp) e2⟩
      | tup t' m'' y =>
        obtain ⟨vs, e1, e2⟩ := hv
        exact ⟨vs, e1, TupR_frame hZ hZw _ _ _ e2⟩
      | rp t' y =>
        obtain ⟨b', off', cs', e1, e2, e3, e4⟩ := hv
        exact ⟨b', off', cs', e1, hZ b' e2, by rw [cellsAt_same (hZw b' e2)]; exact e3, e4.frame hZ hZw⟩
      | ref r' p' =>
        obtain ⟨l1, cs1, c1, e1, e2⟩ := hv
        exact ⟨l1, cs1, c1, Place_world e1 (by simpa [AVal.deep] using hd) (hroot r') (hRoot r'), e2⟩
      | addr r' p' =>
        obtain ⟨b', off', cs1, c1, e1, e2⟩ := hv
        exact ⟨b', off', cs1, c1, Place_world e1 (by simpa [AVal.deep] using hd) (hroot r') (hRoot r'), e2⟩
    · trivial
  · obtain ⟨b', e, cells, g1, g2, g3, g4⟩ := h.mems k c hk
    exact ⟨b', e, cells, hso _ _ _ g1, by rw [hne b' _ _ g1 (by simp)]; exact g2, hOW (by simp) g3, fun b'' hb'' => g4 b'' (hmem k b'' hb'')⟩
end
end Go.Proofs.YtpmlimdilajidaaDoor.Vm
namespace Go.Proofs.YtpmlimdilajidaaDoor.Vm
open Go Go.RowKit
set_option linter.unusedVariables false

section
variable {S : Cx} {α : Type} {g : Gl S} {own : Nat → Option Own} {st : ST S} {a : Act} {w : World}

theorem run_checkKey_int {P : Program} {e : TypeId} {kk k : IntKind} {z : Int} (hu : P.underlying e = some (.int kk)) (em : Bool) (d : Nat) (w : World) : (Instr.checkKey em (d + 1) e (.int k z)).run P w = .ok () w := by
  simp [Instr.checkKey, run_underlying hu]
theorem run_checkKey_arr {P : Program} {E : Env S} (T : TysOk P E) {kt e n : Nat} {kk : IntKind} (hu : P.underlying kt = some (.array n e)) (he : E.tys.lookup e = some (.int kk)) (em : Bool) (d : Nat) {x : List Int} {cs : List Value} {w0 : World} {Z : Nat → Prop}
    (r : S.R w0 Z (.arr n (.int kk)) cs x) (w : World) : (Instr.checkKey em (d + 2) kt (.agg cs.toArray)).run P w = .ok () w := by
  obtain ⟨a1, a2, a3⟩ := Cx.R_arr.1 r
  have hs : S.size (.int kk) = 1 := rfl
  rw [hs] at a2 a3
  have tff := T _ _ he
  have hpart : ∀ (i : Nat) (w : World), i < n → (part e cs.toArray (i * 1)).run P w = .ok (.int kk (x.getD i 0)) w := fun i w hi => by
    have pa := run_partAt (S := S) tff w cs (i * 1) (by rw [hs, a2]; omega)
    rw [hs, Cx.R_int.1 (a3 i (x.getD i 0) (getD_nth (l := x) 0 (a1.symm ▸ hi)))] at pa
    exact pa
  unfold Instr.checkKey
  simp only [Sem.run_bind, run_underlying hu, Result.andThen_ok]
  simp only [Std.Legacy.Range.forIn_eq_forIn_range', Std.Legacy.Range.size, Nat.sub_zero, Nat.add_one_sub_one, Nat.div_one]
  have hr : ∀ i ∈ List.range' 0 n, i < n := fun i hi => by simp at hi; omega
  generalize List.range' 0 n = is at hr
  induction is with
  | nil => rfl
  | cons i is ih =>
    have h1 := hpart i w (hr i (List.mem_cons_self ..))
    simp only [List.forIn_cons, Sem.run_bind, tff.size w, hs, Result.andThen_ok, h1, run_checkKey_int tff.und]
    exact ih (fun j hj => hr j (List.mem_cons_of_mem _ hj))
theorem run_find {P : Program} {E : Env S} (ok : S.Ok) (T : TysOk P E) {kt : Nat} {k v : Ty} (hk : k.isKey = true) (hl : E.tys.lookup kt = some k) (y : S.den k) (kc : List Value) {w0 : World} (hy : S.R w0 (fun _ => False) k kc y) :
    ∀ (es : List MapEntry) (l : List (S.den k × S.den v)) (i0 : Nat), S.Ents w0 k v es l →
    ∃ res, (∀ w, (Instr.findAsking kt (.agg kc.toArray) es i0).run P w = .ok res w) ∧
      ((res = none ∧ findM (S.eqB k) y l = none ∧ ∀ b, putM (S.eqB k) y b l = l ++ [(y, b)]) ∨
       ∃ i e x, es[i]? = some e ∧ nth l i = some x ∧ res = some (i0 + i, e.val) ∧ S.eqB k y x.1 = true ∧ findM (S.eqB k) y l = some x.2 ∧ ∀ b, putM (S.eqB k) y b l = l.set i (y, b)) := by
  obtain ⟨n, kk, rfl⟩ : ∃ n kk, k = .agg (.arr n (.int kk)) := by
    cases k with
    | agg t => cases t with
      | arr n e => cases e with
        | int kk => exact ⟨n, kk, rfl⟩
        | _ => cases hk
      | _ => cases hk
    | _ => cases hk
  intro es
  induction es with
  | nil =>
    intro l i0 h
    have : l = [] := by
      have := h.1
      simp at this
      exact List.eq_nil_of_length_eq_zero this.symm
    subst this
    exact ⟨none, fun _ => rfl, .inl ⟨rfl, rfl, fun b => rfl⟩⟩
  | cons e es ih =>
    intro l i0 h
    match l, h with
    | [], h => have := h.1; simp at this
    | x :: l, h =>
      obtain ⟨⟨c1, b1, b2⟩, _⟩ := h.2 0 e x rfl rfl
      have hkey : e.key = .agg c1.toArray := b1
      have heq' : ∀ w, (Op.equal kt (.agg kc.toArray) (.agg c1.toArray)).run P w = .ok (S.eqB (.agg (.arr n (.int kk))) y x.1) w := fun w =>
        run_eqIn (P := P) (E := E) ok T (.agg (.arr n (.int kk))) Op.maxDepth kt y x.1 kc c1 w w0 (fun _ => False) rfl hl (by show 2 ≤ 10000; omega) hy b2
      have htl : S.Ents w0 (.agg (.arr n (.int kk))) v es l := ⟨by have := h.1; simpa using this, fun i e' x' he hx => h.2 (i + 1) e' x' (by simpa using he) (by simpa [nth] using hx)⟩
      simp only [Instr.findAsking, hkey, Sem.run_bind, heq', Result.andThen_ok]
      cases hb : S.eqB (.agg (.arr n (.int kk))) y x.1 with
      | true => exact ⟨some (i0, e.val), fun _ => rfl, .inr ⟨0, e, x, rfl, rfl, rfl, hb, by simp only [findM, hb], fun b => by simp only [putM, hb, List.set_cons_zero]⟩⟩
      | false =>
        obtain ⟨res, r1, r2⟩ := ih l (i0 + 1) htl
        refine ⟨res, fun w => by simpa using r1 w, ?_⟩
        rcases r2 with ⟨q1, q2, q3⟩ | ⟨i, e', x', q1, q2, q3, q4, q5, q6⟩
        · exact .inl ⟨q1, by simp only [findM, hb]; exact q2, fun b => by simp only [putM, hb]; rw [q3]; rfl⟩
        · exact .inr ⟨i + 1, e', x', by simpa using q1, by simpa [nth] using q2, by rw [q3]; congr 2; omega, q4, by simp only [findM, hb]; exact q5, fun b => by simp only [putM, hb]; rw [q6]; rfl⟩

theorem key_parts {P : Program} {E : Env S} (T : TysOk P E) {kt : Nat} {k : Ty} (hk : k.isKey = true) (hl : E.tys.lookup kt = some k) : ∃ n e kk, k = .agg (.arr n (.int kk)) ∧ P.underlying kt = some (.array n e) ∧ E.tys.lookup e = some (.int kk) := by
  cases k with
  | agg t => cases t with
    | arr n e => cases e with
      | int kk =>
        rcases (T _ _ hl).und with ⟨fs, _, hf⟩ | ⟨n', v, e', heq, hu, he, _⟩
        · exact (arr_struct T hf).elim
        · cases heq; exact ⟨n, e', kk, rfl, hu, he⟩
      | _ => cases hk
    | _ => cases hk
  | _ => cases hk
theorem scalar_R' {w w' : World} {Z Z' : Nat → Prop} : ∀ (t : Ty) (cs : List Value) (x : S.den t), t.scalar = true → S.R w Z t cs x → S.R w' Z' t cs x := by
  intro t
  induction t with
  | int k => intro cs x _ h; exact Cx.R_int.2 (Cx.R_int.1 h)
  | bool => intro cs x _ h; exact Cx.R_bool.2 (Cx.R_bool.1 h)
  | str => intro cs x _ h; exact Cx.R_str.2 (Cx.R_str.1 h)
  | unit => intro cs x _ h; exact Cx.R_unit.2 (Cx.R_unit.1 h)
  | pair a b iha ihb =>
    intro cs x hs h
    simp only [Ty.scalar, Bool.and_eq_true] at hs
    obtain ⟨c1, c2, h1, h2, h3, h4⟩ := Cx.R_pair.1 h
    exact Cx.R_pair.2 ⟨c1, c2, h1, h2, iha _ _ hs.1 h3, ihb _ _ hs.2 h4⟩
  | agg t ih => intro cs x hs h; exact Cx.R_agg.2 (ih _ _ hs (Cx.R_agg.1 h))
  | _ => intro cs x hs _; cases hs
theorem key_R {w w' : World} {Z Z' : Nat → Prop} {k : Ty} {cs : List Value} {x : S.den k} (hk : k.isKey = true) (h : S.R w Z k cs x) : S.R w' Z' k cs x := by
  cases k with
  | agg t => cases t with
    | arr n e => cases e with
      | int kk =>
        obtain ⟨h1, h2, h3⟩ := Cx.R_arr.1 (Cx.R_agg.1 h)
        exact Cx.R_agg.2 (Cx.R_arr.2 ⟨h1, h2, fun i y hy => Cx.R_int.2 (Cx.R_int.1 (h3 i y hy))⟩)
      | _ => cases hk
    | _ => cases hk
  | _ => cases hk
theorem run_zeroValue' {P : Program} {t : Nat} {i : TypeInfo} {z : Value} (h1 : P.info? t = some i) (h2 : i.zero = some z) (w : World) : (zeroValue t).run P w = .ok z w := by
  simp [zeroValue, typeInfo, h1, h2]
theorem do_makeMap {o : Oper} {t : TypeId} {res : Option Operand} {hn : Hint} {κ : ST S → Option α} {r : α} (ok : S.Ok) (h : Rel g own st a w) (hd : ∀ d, o.dst = some d → d < a.tmps.size)
    (ho : o.op = .makeMap t res) (hκ : opK g.E hn o st κ = some r) : Do g true o a w κ r := by
  simp only [opK, ho] at hκ
  split at hκ
  · split at hκ
    · rename_i k v d e1 hdst
      obtain ⟨own1, o1, h1, _, _⟩ := h.newRow (.map #[] 0) (some [])
      have hblk : (w.alloc (.map #[] 0)).heap[w.heap.size]? = some (.map #[] 0) := (MapKept.heap_alloc w _).1
      obtain ⟨own2, h2⟩ := put_lim h1 hn (hd d hdst) (c := ⟨.map k v, mapM, []⟩) (v := .map (some w.heap.size)) (cs := [.map (some w.heap.size)]) rfl
        ⟨w.heap.size, #[], 0, rfl, o1, hblk, by simp, fun i e x he => by simp at he⟩
      refine do_run (v := .map (some w.heap.size)) ?_ (by rw [hdst]; exact h2) hκ (fun _ => (Below.refl _ w).alloc (Nat.le_refl _) _)
      simp only [execOp, ho]
      rfl
    · cases hκ
  · cases hκ
theorem run_lookupM {P : Program} {t kt et b : Nat} {es : Array MapEntry} {clock : Nat} {key : Value} {two : Bool} {w : World} {res : Option (Nat × Value)} {z0 : Value} (hu : P.underlying t = some (.map kt et)) (hb : w.heap[b]? = some (.map es clock))
    (hchk : ∀ em, (Instr.checkKey em 10000 kt key).run P w = .ok () w) (hf : (Instr.findKey kt key es.toList).run P w = .ok res w) (hz : (zeroValue et).run P w = .ok z0 w) :
    (Instr.lookup t (.map (some b)) key two).run P w = .ok (if two then .tuple #[(res.map (·.2)).getD z0, .bool res.isSome] else (res.map (·.2)).getD z0) w := by
  simp only [Instr.lookup, Sem.run_bind, run_underlying hu, Result.andThen_ok, MapKept.run_getObj_map hb]
  simp only [Sem.run_pure, Result.andThen_ok, hchk, hf]
  cases res with
  | none => simp only [Sem.run_bind, hz, Result.andThen_ok]; cases two <;> rfl
  | some p => cases two <;> rfl
theorem rd_lookup {o : Oper} {t : TypeId} {x i : Operand} {two : Bool} {hn : Hint} {κ : ST S → Option α} {r : α} (ok : S.Ok) (T : TysOk g.P g.E) (h : Rel g own st a w) (hd : ∀ d, o.dst = some d → d < a.tmps.size)
    (ho : o.op = .lookup t x i two) (hκ : opK g.E hn o st κ = some r) : Rd g o a w κ r := by
  simp only [opK, ho] at hκ
  split at hκ
  · rename_i rt p ex
    split at hκ
    · rename_i k v m l e2
      split at hκ
      · rename_i m1 m2 c hb hc
        simp only [Bool.and_eq_true] at hb
        obtain ⟨⟨ht, hk⟩, hs⟩ := hb
        split at hκ
        · rename_i y hy
          obtain ⟨b, es, clock, _, _, v1, hown, hlt, hblk, hE⟩ := map_at ok h ex e2
          obtain ⟨kt, et, hu, hkt, het⟩ := (T _ _ (Env.is_lookup ht)).und
          obtain ⟨n, e, kk, rfl, huk, he⟩ := key_parts T hk hkt
          obtain ⟨cs, hVS, hR⟩ := val_ok ok g.E h hc
          obtain ⟨hty, rfl⟩ := cast_some hy
          obtain ⟨ct, cm, cx⟩ := c
          simp only at hty hVS hR
          subst hty
          have v2 : a.eval i = .agg cs.toArray := hVS
          have hkey : S.R w (fun _ => False) (.agg (.arr n (.int kk))) cs cx := key_R hk hR
          obtain ⟨iz, z0, i1, _, i3, i4, _⟩ := (T _ _ het).info
          have hz : ∀ w', (zeroValue et).run g.P w' = .ok z0 w' := fun w' => run_zeroValue' i1 i3 w'
          have hnm : noName v = true := (T _ _ het).named (by cases v <;> first | rfl | cases hs)
          obtain ⟨res, r1, r2⟩ := run_find (P := g.P) (E := g.E) ok T (v := v) hk hkt cx cs hkey es.toList l 0 hE
          have hchk : ∀ em w', (Instr.checkKey em 10000 kt (.agg cs.toArray)).run g.P w' = .ok () w' := fun em w' => run_checkKey_arr (S := S) T huk he em 9998 (Cx.R_agg.1 hkey) w'
          have hwide : (match g.P.underlying kt with | some (.array _ _) | some (.struct _) => true | _ => false) = true := by rw [huk]
          have hrun : ∀ w', Below w.heap.size w w' → (Instr.lookup t (.map (some b)) (.agg cs.toArray) two).run g.P w' = .ok (if two then .tuple #[(res.map (·.2)).getD z0, .bool res.isSome] else (res.map (·.2)).getD z0) w' := fun w' hw' =>
            run_lookupM hu (by rw [hw'.block b hlt]; exact hblk) (fun em => hchk em w') ((run_findKey_eq w' hwide _ _).trans (r1 w')) (hz w')
          have hval : ∃ vc, VS v ((res.map (·.2)).getD z0) vc ∧ S.R w (g.Z own w) v vc (Option.getD (findM (S.eqB (.agg (.arr n (.int kk)))) cx l) (S.zero v)) := by
            rcases r2 with ⟨q1, q2, q3⟩ | ⟨j, e', x', q1, q2, q3, q4, q5, q6⟩
            · exact ⟨zc v, by rw [q1]; exact i4, by rw [q2]; exact R_zc _ hnm⟩
            · obtain ⟨_, vc, p1, p2⟩ := hE.2 j e' x' q1 q2
              exact ⟨vc, by rw [q3]; exact p1, by rw [q5]; exact p2.frame (fun _ h => h.elim) (fun _ h => h.elim)⟩
          have hsome : res.isSome = Option.isSome (findM (S.eqB (.agg (.arr n (.int kk)))) cx l) := by
            rcases r2 with ⟨q1, q2, q3⟩ | ⟨j, e', x', q1, q2, q3, q4, q5, q6⟩
            · rw [q1, q2]; rfl
            · rw [q3, q5]; rfl
          have hex : ∀ w', Below w.heap.size w w' → (execOp a.eval o).run g.P w' = .ok (.value (if two then .tuple #[(res.map (·.2)).getD z0, .bool res.isSome] else (res.map (·.2)).getD z0)) w' := fun w' hw' => by
            simp only [execOp, ho, v1, v2]
            exact run_v (hrun w' hw')
          obtain ⟨vc, p1, p2⟩ := hval
          split at hκ
          · cases hdst : o.dst with
            | none => rw [hdst] at hκ; exact ⟨_, own, st, hex, by rw [hdst]; exact h, hκ⟩
            | some d =>
              rw [hdst] at hκ
              have hrel := h.put hn (hd d hdst) (x := .tup (.pair v .bool) .ro (Option.getD (findM (S.eqB (.agg (.arr n (.int kk)))) cx l) (S.zero v), Option.isSome (findM (S.eqB (.agg (.arr n (.int kk)))) cx l))) (v := .tuple #[(res.map (·.2)).getD z0, .bool res.isSome])
                ⟨#[(res.map (·.2)).getD z0, .bool res.isSome], rfl, ⟨vc, p1, p2⟩, ⟨[.bool res.isSome], rfl, Cx.R_bool.2 (by rw [hsome])⟩⟩
              exact ⟨_, own, _, hex, by rw [hdst]; exact hrel, hκ⟩
          · exact rd_put hn h hd hex ⟨vc, p1, p2⟩ hκ
        · cases hκ
      · cases hκ
    · cases hκ
  · cases hκ
theorem nav_cells_keep {w w' : World} (hw : ∀ b off n c, cellsAt w b off n = some c → cellsAt w' b off n = some c) : ∀ (t : Ty) (q : Path) (l : Spot) (cs : List Value) (r : Spot × List Value), S.nav w t l cs q = some r → S.nav w' t l cs q = some r := by
  intro t
  induction t with
  | slice e t ih =>
    intro q l cs r hn
    cases q with
    | nil => exact hn
    | cons s q => cases s with
      | idx i =>
        simp only [Cx.nav] at hn ⊢
        split at hn
        · rename_i b off _ _
          cases hc : cellsAt w b (off + i * S.size t) (S.size t) with
          | none => rw [hc] at hn; cases hn
          | some c =>
            rw [hc] at hn
            rw [hw _ _ _ _ hc]
            exact ih q _ _ _ hn
        · cases hn
      | _ => exact hn
  | pair a b iha ihb =>
    intro q l cs r hn
    cases q with
    | nil => exact hn
    | cons s q => cases s with
      | fst => exact iha q _ _ _ hn
      | snd => exact ihb q _ _ _ hn
      | _ => exact hn
  | agg t ih =>
    intro q l cs r hn
    cases q with
    | nil => exact hn
    | cons s q => cases s with
      | inn => exact ih q _ _ _ hn
      | _ => exact hn
  | arr n t ih =>
    intro q l cs r hn
    cases q with
    | nil => exact hn
    | cons s q => cases s with
      | el i =>
        simp only [Cx.nav] at hn ⊢
        split at hn
        · exact ih q _ _ _ hn
        · cases hn
      | _ => exact hn
  | _ =>
    intro q l cs r hn
    cases q with
    | nil => exact hn
    | cons s q => cases s <;> exact hn


/-- A map that a slot holds turns into another one: the rest stays. -/
theorem Rel.setMap (ok : S.Ok) (h : Rel g own st a w) {s b : Nat} {k v : Ty} {l l' : List (S.den k × S.den v)} {es : Array MapEntry} {clock : Nat} {o' : Obj} (hs : st.look s = .v (.map k v) mapM l) (hown : own b = some (.slot s, some []))
    (hblk : w.heap[b]? = some (.map es clock)) (hnew : S.OW { w with heap := w.heap.setIfInBounds b o' } own (fun _ => False) (.slot s) (.map k v) mapM [] [.map (some b)] l') (hval : a.tmps.getD s undef = .map (some b)) :
    Rel g own ((st.drop (.slot s)).setRoot (.slot s) ⟨.map k v, mapM, l'⟩) a { w with heap := w.heap.setIfInBounds b o' } := by
  have hsame : ∀ b', b' ≠ b → (w.heap.setIfInBounds b o')[b']? = w.heap[b']? := (MapKept.heap_set hblk).2
  have hfr := h.fresh b (by rw [hown]; simp)
  have hZb : ¬ g.Z own w b := fun hz => by have := hz.2.2; rw [hown] at this; cases this
  have hsz : ({ w with heap := w.heap.setIfInBounds b o' } : World).heap.size = w.heap.size := by simp
  have hZ : ∀ b', g.Z own w b' → g.Z own { w with heap := w.heap.setIfInBounds b o' } b' := fun b' hb => ⟨hb.1, by rw [hsz]; exact hb.2.1, hb.2.2⟩
  have hZw : ∀ b', g.Z own w b' → ({ w with heap := w.heap.setIfInBounds b o' } : World).heap[b']? = w.heap[b']? := fun b' hb => hsame b' (fun e => hZb (e ▸ hb))
  have hcell : ∀ b' off n c, cellsAt w b' off n = some c → cellsAt { w with heap := w.heap.setIfInBounds b o' } b' off n = some c := fun b' off n c hc => by
    have hne : b' ≠ b := fun e => by
      subst e
      simp only [cellsAt, hblk] at hc
      cases hc
    rw [cellsAt_same (hsame b' hne)]; exact hc
  have hOW : ∀ {r : Root} {t : Ty} {m : Mode} {p : Path} {cs : List Value} {x : S.den t}, r ≠ .slot s → S.OW w own (g.Z own w) r t m p cs x → S.OW { w with heap := w.heap.setIfInBounds b o' } own (g.Z own { w with heap := w.heap.setIfInBounds b o' }) r t m p cs x := fun hr hO =>
    OW_frame hZ hZw _ _ _ _ _ _ (fun b' q hb' => ⟨hb', hsame b' (fun e => by subst e; rw [hown] at hb'; exact hr (Prod.mk.inj (Option.some.inj hb')).1.symm)⟩) hO
  have hroot : ∀ r, r ≠ .slot s → ((st.drop (.slot s)).setRoot (.slot s) ⟨.map k v, mapM, l'⟩).root r = st.root r := fun r hr => by
    cases r with
    | slot i =>
      have hi : i ≠ s := fun e => hr (by rw [e])
      simp only [St.root, look_setSlot, if_neg hi]
      have := root_killBy st (AVal.rooted (.slot s)) (fun _ _ _ => rfl) rfl (.slot i)
      simpa [St.root, St.drop] using this
    | mem k' =>
      simp only [St.root, St.setRoot]
      split <;> rfl
    | lim => rfl
  have hRoot : ∀ r, r ≠ .slot s → ∀ t l cs, RootAt own a w r t l cs → RootAt own a { w with heap := w.heap.setIfInBounds b o' } r t l cs := fun r hr t l cs hR => by
    cases r with
    | slot i => exact hR
    | lim => exact hR
    | mem k' =>
      obtain ⟨b', e, cl, f1, f2, f3, f4⟩ := hR
      exact ⟨b', e, cl, f1, f2, by rw [hsame b' (fun e => by subst e; rw [hown] at f2; cases f2)]; exact f3, f4⟩
  have hplace : ∀ {r p l cs c}, r ≠ .slot s → Place st own a w r p l cs c → Place ((st.drop (.slot s)).setRoot (.slot s) ⟨.map k v, mapM, l'⟩) own a { w with heap := w.heap.setIfInBounds b o' } r p l cs c := fun hr hp => by
    obtain ⟨t, m, x, l0, cs0, h1, h2, h3, h4, h5, h6⟩ := hp
    exact ⟨t, m, x, l0, cs0, (hroot _ hr).trans h1, h2, hRoot _ hr _ _ _ h3, h4, nav_cells_keep hcell _ _ _ _ _ h5, h6⟩
  refine ⟨h.os, h.tape, h.output, by rw [hsz]; exact h.size, fun b' hb hio => ?_, fun b' hb => ?_, fun i => ?_, fun k' c hk => ?_, h.defs, h.pins⟩
  · rw [hsame b' (fun e => by subst e; exact hfr.1.elim (fun hf => by omega) (fun hf => hio hf))]
    exact h.block b' hb hio
  · have := h.fresh b' hb
    exact ⟨this.1, by rw [hsz]; exact this.2⟩
  · rw [look_setSlot]
    by_cases hi : i = s
    · subst hi
      rw [if_pos rfl]
      refine ⟨[.map (some b)], by rw [hval]; rfl, OW_frame (fun _ h => h.elim) (fun _ h => h.elim) _ _ _ _ _ _ (fun b' q hb' => ⟨hb', rfl⟩) hnew⟩
    · rw [if_neg hi, St.drop, look_killBy _ _ _ rfl]
      have hv := h.vals i
      cases hr : (st.look i).rooted (.slot s) with
      | true => trivial
      | false =>
        simp only
        generalize st.look i = A at *
        cases A with
        | dead => trivial
        | und => exact hv
        | v t m y =>
          obtain ⟨cs', e1, e2⟩ := hv
          exact ⟨cs', e1, hOW (by simpa using hi) e2⟩
        | tup t m y => obtain ⟨vs, e1, e2⟩ := hv; exact ⟨vs, e1, TupR_frame hZ hZw _ _ _ e2⟩
        | rp t y =>
          obtain ⟨b', off', cs', e1, e2, e3, e4⟩ := hv
          exact ⟨b', off', cs', e1, hZ b' e2, hcell _ _ _ _ e3, e4.frame hZ hZw⟩
        | ref r p =>
          obtain ⟨l1, cs', c', e1, e2⟩ := hv
          exact ⟨l1, cs', c', hplace (fun e => by subst e; simp [AVal.rooted] at hr) e1, e2⟩
        | addr r p =>
          obtain ⟨b', off', cs', c', e1, e2⟩ := hv
          exact ⟨b', off', cs', c', hplace (fun e => by subst e; simp [AVal.rooted] at hr) e1, e2⟩
  · have hm : ((st.drop (.slot s)).setRoot (.slot s) ⟨.map k v, mapM, l'⟩).mems = st.mems := by
      simp only [St.setRoot]; split <;> rfl
    rw [hm] at hk
    obtain ⟨b', e, cells, g1, g2, g3, g4⟩ := h.mems k' c hk
    exact ⟨b', e, cells, g1, by rw [hsame b' (fun e => by subst e; rw [hown] at g1; cases g1)]; exact g2, hOW (by simp) g3, g4⟩

theorem sameBits_int {n : Nat} {k : IntKind} {z : Int} : Instr.sameBits n (.int k z) (.int k z) = true := by cases n <;> simp [Instr.sameBits]
theorem key_same {n : Nat} {kk : IntKind} {cs ds : List Value} {w w' : World} {Z Z' : Nat → Prop} {x : List Int} (h1 : S.R w Z (.arr n (.int kk)) cs x) (h2 : S.R w' Z' (.arr n (.int kk)) ds x) : cs = ds := by
  obtain ⟨a1, a2, a3⟩ := Cx.R_arr.1 h1
  obtain ⟨b1, b2, b3⟩ := Cx.R_arr.1 h2
  have hs : S.size (.int kk) = 1 := rfl
  rw [hs] at a2 a3 b2 b3
  apply List.ext_getElem (by omega)
  intro i hi hj
  have hx : i < x.length := by have : List.length x = n := a1; omega
  have e1 := Cx.R_int.1 (a3 i (x.getD i 0) (getD_nth (l := x) 0 hx))
  have e2 := Cx.R_int.1 (b3 i (x.getD i 0) (getD_nth (l := x) 0 hx))
  rw [Nat.mul_one] at e1 e2
  have g1 : (cs.drop i).take 1 = [cs[i]] := by rw [List.drop_eq_getElem_cons hi]; rfl
  have g2 : (ds.drop i).take 1 = [ds[i]] := by rw [List.drop_eq_getElem_cons hj]; rfl
  rw [g1] at e1
  rw [g2] at e2
  exact (List.cons.inj e1).1.trans (List.cons.inj e2).1.symm
theorem sameBits_self {n : Nat} {kk : IntKind} {cs : List Value} {w : World} {Z : Nat → Prop} {x : List Int} (h1 : S.R w Z (.arr n (.int kk)) cs x) (d : Nat) : Instr.sameBits (d + 1) (.agg cs.toArray) (.agg cs.toArray) = true := by
  obtain ⟨a1, a2, a3⟩ := Cx.R_arr.1 h1
  have hs : S.size (.int kk) = 1 := rfl
  rw [hs] at a2 a3
  have hall : ∀ v ∈ cs, ∃ z, v = .int kk z := fun v hv => by
    obtain ⟨i, hi, rfl⟩ := List.getElem_of_mem hv
    have hx : i < x.length := by have : List.length x = n := a1; omega
    have e1 := Cx.R_int.1 (a3 i (x.getD i 0) (getD_nth (l := x) 0 hx))
    rw [Nat.mul_one, List.drop_eq_getElem_cons hi] at e1
    exact ⟨_, (List.cons.inj e1).1⟩
  have : ∀ l : List Value, (∀ v ∈ l, ∃ z, v = .int kk z) → (l.zip l).all (fun p => Instr.sameBits d p.1 p.2) = true := by
    intro l
    induction l with
    | nil => intro _; rfl
    | cons v l ih =>
      intro hl
      obtain ⟨z, rfl⟩ := hl v (List.mem_cons_self ..)
      rw [List.zip_cons_cons, List.all_cons, sameBits_int, ih (fun v hv => hl v (List.mem_cons_of_mem _ hv))]; rfl
  simp [Instr.sameBits, this cs hall]
theorem ents_push {k v : Ty} {es : List MapEntry} {l : List (S.den k × S.den v)} (hE : S.Ents w k v es l) {e : MapEntry} {y : S.den k} {z : S.den v} (hk : ∃ kc, VS k e.key kc ∧ S.R w (fun _ => False) k kc y) (hv : ∃ vc, VS v e.val vc ∧ S.R w (fun _ => False) v vc z) :
    S.Ents w k v (es ++ [e]) (l ++ [(y, z)]) := by
  refine ⟨by simp [hE.1], fun j e' x' h1 h2 => ?_⟩
  have hl := hE.1
  by_cases hj : j < es.length
  · rw [List.getElem?_append_left hj] at h1
    unfold nth at h2
    rw [List.getElem?_append_left (by omega)] at h2
    exact hE.2 j e' x' h1 h2
  · have hjl : j = es.length := by
      have := (List.getElem?_eq_some_iff.1 h1).1
      simp at this; omega
    subst hjl
    unfold nth at h2
    rw [List.getElem?_append_right (Nat.le_refl _)] at h1
    rw [hl, List.getElem?_append_right (Nat.le_refl _)] at h2
    simp at h1 h2
    subst h1
    subst h2
    exact ⟨hk, hv⟩
theorem ents_mod {k v : Ty} {es es' : List MapEntry} {l : List (S.den k × S.den v)} (hE : S.Ents w k v es l) {j : Nat} (hj : j < l.length) {e : MapEntry} {y : S.den k} {z : S.den v} (hlen : es'.length = es.length) (hes : ∀ i, es'[i]? = if j = i then some e else es[i]?)
    (hk : ∃ kc, VS k e.key kc ∧ S.R w (fun _ => False) k kc y) (hv : ∃ vc, VS v e.val vc ∧ S.R w (fun _ => False) v vc z) : S.Ents w k v es' (l.set j (y, z)) := by
  refine ⟨by rw [hlen, List.length_set]; exact hE.1, fun i e' x' h1 h2 => ?_⟩
  rw [hes] at h1
  by_cases hi : j = i
  · subst hi
    rw [if_pos rfl] at h1
    rw [nth_set_self hj] at h2
    cases h1
    cases h2
    exact ⟨hk, hv⟩
  · rw [if_neg hi] at h1
    rw [nth_set_ne (Ne.symm hi)] at h2
    exact hE.2 i e' x' h1 h2
theorem eqB_key {n : Nat} {kk : IntKind} {x y : S.den (.agg (.arr n (.int kk)))} (h : S.eqB (.agg (.arr n (.int kk))) x y = true) : x = y := by
  have h : (fun (a b : List Int) => decide (a = b)) x y = true := h
  exact of_decide_eq_true (p := (show List Int from x) = (show List Int from y)) h
theorem do_mapUpdate {o : Oper} {t : TypeId} {x i z : Operand} {hn : Hint} {κ : ST S → Option α} {r : α} (ok : S.Ok) (T : TysOk g.P g.E) (h : Rel g own st a w)
    (ho : o.op = .mapUpdate t x i z) (hκ : opK g.E hn o st κ = some r) : Do g false o a w κ r := by
  simp only [opK, ho] at hκ
  split at hκ
  · rename_i rt p hdst ex
    split at hκ
    · rename_i s
      split at hκ
      · rename_i k v m l hs
        split at hκ
        · rename_i m1 m2 c d hb hc hd
          simp only [Bool.and_eq_true] at hb
          obtain ⟨⟨ht, hk⟩, hsc⟩ := hb
          split at hκ
          · rename_i y y2 hy hy2
            have e2 : st.at (.slot s) [] = some ⟨.map k v, .pr m1 m2, l⟩ := by
              simp only [St.at, St.root, hs]; rfl
            obtain ⟨b, es, clock, rfl, rfl, v1, hown, hlt, hblk, hE⟩ := map_at ok h ex e2
            obtain ⟨kt, et, hu, hkt, het⟩ := (T _ _ (Env.is_lookup ht)).und
            obtain ⟨n, e, kk, rfl, huk, he⟩ := key_parts T hk hkt
            obtain ⟨cs, hVS, hR⟩ := val_ok ok g.E h hc
            obtain ⟨ds, hVSd, hRd⟩ := val_ok ok g.E h hd
            obtain ⟨hty, rfl⟩ := cast_some hy
            obtain ⟨htd, rfl⟩ := cast_some hy2
            obtain ⟨ct, cm, cx⟩ := c
            obtain ⟨dt, dm, dx⟩ := d
            simp only at hty hVS hR htd hVSd hRd
            subst hty
            subst htd
            have v2 : a.eval i = .agg cs.toArray := hVS
            have hkey : S.R w (fun _ => False) (.agg (.arr n (.int kk))) cs cx := key_R hk hR
            have hvl : S.R w (fun _ => False) dt ds dx := scalar_R' _ _ _ hsc hRd
            obtain ⟨res, r1, r2⟩ := run_find (P := g.P) (E := g.E) ok T (v := dt) hk hkt cx cs hkey es.toList l 0 hE
            have hchk : (Instr.checkKey false 10000 kt (.agg cs.toArray)).run g.P w = .ok () w := run_checkKey_arr (S := S) T huk he false 9998 (Cx.R_agg.1 hkey) w
            have hwide : (match g.P.underlying kt with | some (.array _ _) | some (.struct _) => true | _ => false) = true := by rw [huk]
            have hf := (run_findKey_eq w hwide (.agg cs.toArray) es.toList).trans (r1 w)
            have hvals := h.vals s
            rw [hs] at hvals
            have hval : a.tmps.getD s undef = .map (some b) := by
              obtain ⟨c0, q1, b0, es0, cl0, q2, q3, q4, q5⟩ := hvals
              have q1 : c0 = [a.tmps.getD s undef] := q1
              rw [q1] at q2
              rw [(List.cons.inj q2).1]
              have hav := av_ok g.E h x t 0
              rw [ex] at hav
              obtain ⟨l0, c1, cc, hp, hVS0⟩ := hav
              have := at_place hp e2
              subst this
              obtain ⟨t1, m1, x1, l1, cs1, p1, p2, p3, p4, p5, p6⟩ := hp
              rw [nav_nil] at p5
              have e5 := congrArg Prod.snd (Option.some.inj p5)
              have p1' : st.root (.slot s) = some ⟨.map (.agg (.arr n (.int kk))) dt, mapM, l⟩ := by simp only [St.root, hs]
              rw [p1'] at p1
              cases p1
              have p3 : cs1 = [a.tmps.getD s undef] := p3.2
              have hVS0 : c1 = [a.eval x] := hVS0
              have e5 : cs1 = c1 := e5
              rw [← e5, p3, v1] at hVS0
              rw [← (List.cons.inj q2).1, (List.cons.inj hVS0).1]
            have finish : ∀ (o' : Obj) (es' : Array MapEntry) (clock' : Nat), o' = .map es' clock' → S.Ents w (.agg (.arr n (.int kk))) dt es'.toList (putM (S.eqB (.agg (.arr n (.int kk)))) cx dx l) →
                (Instr.mapUpdate t (.map (some b)) (.agg cs.toArray) (a.eval z)).run g.P w = .ok () { w with heap := w.heap.setIfInBounds b o' } → Do g false o a w κ r := by
              intro o' es' clock' ho' hE' hrun
              have hrel := h.setMap ok (o' := o') (l' := putM (S.eqB (.agg (.arr n (.int kk)))) cx dx l) hs hown hblk ⟨b, es', clock', rfl, hown, by rw [← ho']; exact (MapKept.heap_set hblk).1, hE'.1, fun j e' x' q1 q2 => by
                obtain ⟨⟨kc, p1, p2⟩, vc, p3, p4⟩ := hE'.2 j e' x' q1 q2
                exact ⟨⟨kc, p1, p2.frame (fun _ h => h) (fun _ h => h.elim)⟩, vc, p3, p4.frame (fun _ h => h) (fun _ h => h.elim)⟩⟩ hval
              intro Q
              unfold Oper.wp
              have hx : (execOp a.eval o).run g.P w = .ok .skip { w with heap := w.heap.setIfInBounds b o' } := by
                simp only [execOp, ho, v1, v2, Sem.run_bind, hrun, Result.andThen_ok]
                rfl
              rw [hx]
              exact ⟨own, _, by rw [hdst]; exact hrel, hκ, by rw [hdst]; rfl, fun h => by cases h⟩
            rcases r2 with ⟨q1, q2, q3⟩ | ⟨j, e', x', q1, q2, q3, q4, q5, q6⟩
            · subst q1
              refine finish (.map (es.push { key := .agg cs.toArray, val := a.eval z, born := clock }) (clock + 1)) _ _ rfl ?_ ?_
              · rw [q3, Array.toList_push]
                exact ents_push hE ⟨cs, rfl, hkey⟩ ⟨ds, hVSd, hvl⟩
              · simp only [Instr.mapUpdate, Sem.run_bind, run_underlying hu, Result.andThen_ok, MapKept.run_getObj_map hblk, hchk, hf, MapKept.run_setObj_map _ hblk]
            · subst q3
              have hkeq : e'.key = .agg cs.toArray := by
                obtain ⟨⟨kc, p1, p2⟩, _⟩ := hE.2 j e' x' q1 q2
                have hxx : cx = x'.1 := eqB_key q4
                rw [← hxx] at p2
                have := key_same (Cx.R_agg.1 hkey) (Cx.R_agg.1 p2)
                subst this
                exact p1
              have hsb : Instr.sameBits 10000 (.agg cs.toArray) (.agg cs.toArray) = true := sameBits_self (Cx.R_agg.1 hkey) 9999
              refine finish (.map (es.modify j fun e => { e with key := .agg cs.toArray, val := a.eval z }) clock) _ _ rfl ?_ ?_
              · rw [q6]
                refine ents_mod (e := { e' with key := .agg cs.toArray, val := a.eval z }) hE (nth_lt q2) (by simp) (fun i => ?_) ⟨cs, rfl, hkey⟩ ⟨ds, hVSd, hvl⟩
                rw [Array.getElem?_toList, Array.getElem?_modify]
                by_cases hj : j = i
                · subst hj
                  have q1' : es[j]? = some e' := by simpa using q1
                  rw [if_pos rfl, if_pos rfl, q1']; rfl
                · rw [if_neg hj, if_neg hj]; simp
              · have q1' : es[j]? = some e' := by simpa using q1
                have hstay : (Instr.keyThatStays (.agg cs.toArray) (.agg cs.toArray)).run g.P w = .ok (.agg cs.toArray) w := by
                  unfold Instr.keyThatStays
                  rw [if_pos hsb]; rfl
                simp only [Instr.mapUpdate, Sem.run_bind, run_underlying hu, Result.andThen_ok, MapKept.run_getObj_map hblk, hchk, hf, Nat.zero_add, q1', Option.map_some, Option.getD_some, hkeq, hstay, MapKept.run_setObj_map _ hblk]
          · cases hκ
        · cases hκ
      · cases hκ
    · cases hκ
  · cases hκ
end
end Go.Proofs.YtpmlimdilajidaaDoor.Vm
namespace Go.Proofs.YtpmlimdilajidaaDoor.Vm
open Go Go.RowKit
set_option linter.unusedVariables false

section
variable {S : Cx} {α : Type}

/-- A memory that is handed over: number i. -/
def IoR (S : Cx) (w : World) (Z : Nat → Prop) (own : Nat → Option Own) (i : Nat) (v : Value) (t : Ty) (m : Mode) (x : S.den t) : Prop :=
  ∃ b e cells, v = .pointer (some ⟨b, 0, none⟩) ∧ own b = some (.mem i, none) ∧ w.heap[b]? = some (.cells cells e (0, 0)) ∧ S.OW w own Z (.mem i) t m [] cells.toList x ∧ ∀ b', own b' = some (.mem i, none) → b' = b

def ArgR (S : Cx) (w : World) (Z : Nat → Prop) (own : Nat → Option Own) (i : Nat) : (p : PK) → Value → S.den p.ty → Prop
  | .val t, v, x => ∃ cs, VS t v cs ∧ S.R w Z t cs x
  | .io t m, v, x => IoR S w Z own i v t m x

def ArgsR (S : Cx) (w : World) (Z : Nat → Prop) (own : Nat → Option Own) : Nat → (ps : List PK) → List Value → S.den (packTy (argT ps)) → Prop
  | _, [], [], _ => True
  | i, p :: ps, v :: vs, x => ArgR S w Z own i p v x.1 ∧ ArgsR S w Z own (i + 1) ps vs x.2
  | _, _, _, _ => False

/-- The memories that were handed over, behind the call. -/
def OutsR (S : Cx) (w : World) (Z : Nat → Prop) (own : Nat → Option Own) : List (Nat × Value) → (os : List (Ty × Mode)) → S.den (packTy (outT os)) → Prop
  | [], [], _ => True
  | k :: ks, o :: os, y => IoR S w Z own k.1 k.2 o.1 o.2 y.1 ∧ OutsR S w Z own ks os y.2
  | _, _, _ => False
def ioArgs : Nat → List PK → List Value → List (Nat × Value)
  | i, .val _ :: ps, _ :: vs => ioArgs (i + 1) ps vs
  | i, .io _ _ :: ps, v :: vs => (i, v) :: ioArgs (i + 1) ps vs
  | _, _, _ => []

/-- One result: data, or a pointer to memory that is nobody else's. -/
def Res1 (S : Cx) (w : World) (Z : Nat → Prop) (own : Nat → Option Own) : (rt : Ty) → (rm : Mode) → Value → S.den rt → Prop
  | .box t, .own m, v, x => ∃ b e cells, v = .pointer (some ⟨b, 0, none⟩) ∧ own b = some (.lim, none) ∧ w.heap[b]? = some (.cells cells e (0, 0)) ∧ S.OW w own Z .lim t m [] cells.toList x
  | rt, rm, v, x => ∃ cs, VS rt v cs ∧ S.OW w own Z .lim rt rm [] cs x
theorem Res1.of {w : World} {Z : Nat → Prop} {own : Nat → Option Own} {rt : Ty} {rm : Mode} {v : Value} {x : S.den rt} (h : ∃ cs, VS rt v cs ∧ S.OW w own Z .lim rt rm [] cs x) : Res1 S w Z own rt rm v x := by
  unfold Res1
  split
  · obtain ⟨cs, h1, h2⟩ := h
    exact h2.elim
  · exact h
theorem Res1.ro {w : World} {Z : Nat → Prop} {own : Nat → Option Own} {rt : Ty} {v : Value} {x : S.den rt} (h : Res1 S w Z own rt .ro v x) : ∃ cs, VS rt v cs ∧ S.OW w own Z .lim rt .ro [] cs x := by
  unfold Res1 at h
  split at h
  · rename_i e; cases e
  · exact h
theorem Res1.frame {w : World} {Z Z' : Nat → Prop} {own own' : Nat → Option Own} {rt : Ty} {rm : Mode} {v : Value} {x : S.den rt} (hZ : ∀ b, Z b → Z' b) (ho : ∀ b q, own b = some (.lim, q) → own' b = some (.lim, q))
    (h : Res1 S w Z own rt rm v x) : Res1 S w Z' own' rt rm v x := by
  have fr : ∀ {t : Ty} {m : Mode} {p : Path} {cs : List Value} {x : S.den t}, S.OW w own Z .lim t m p cs x → S.OW w own' Z' .lim t m p cs x := fun hO =>
    OW_frame hZ (fun _ _ => rfl) _ _ _ _ _ _ (fun b q hb => ⟨ho b _ hb, rfl⟩) hO
  unfold Res1 at h ⊢
  split at h
  · obtain ⟨b, e, cells, h1, h2, h3, h4⟩ := h
    exact ⟨b, e, cells, h1, ho b _ h2, h3, fr h4⟩
  · obtain ⟨cs, h1, h2⟩ := h
    exact ⟨cs, h1, fr h2⟩
def ResR (w : World) (Z : Nat → Prop) (own : Nat → Option Own) (F : FSpec S.toNm) (v : Value) (x : S.den F.rt) : Prop :=
  match F.nres with
  | 0 => True
  | 1 => Res1 S w Z own F.rt F.rm v x
  | _ => ∃ vs, v = .tuple vs ∧ TupR w Z F.rt x vs.toList

/-- A call ends so. -/
def Enters (P : Program) (f : FuncId) (args : Array Value) (w : World) (R : Value → World → Prop) : Prop :=
  match (callFunc f args).run P w with
  | .ok (.value v) w' => R v w'
  | .ok (.enter f' args') w' => Calls P f' args' w' (fun e w'' => ∃ v, e = .returned v ∧ R v w'')
  | _ => False

/-- What a call leaves as it was. -/
structure Left (own own' : Nat → Option Own) (w w' : World) : Prop where
  os : w'.os = w.os
  tape : w'.tape = w.tape
  output : w'.output = w.output
  size : w.heap.size ≤ w'.heap.size
  block : ∀ b, b < w.heap.size → own b = none → w'.heap[b]? = w.heap[b]?
  own : ∀ b, own' b ≠ none → b < w'.heap.size ∧ (w.heap.size ≤ b ∨ own b ≠ none)

def zoneOf (Z : Nat → Prop) (own own' : Nat → Option Own) (w w' : World) : Nat → Prop := fun b => (Z b ∨ w.heap.size ≤ b ∨ own b ≠ none) ∧ b < w'.heap.size ∧ own' b = none

/-! ### Arguments -/
def ValsR (S : Cx) (w : World) (Z : Nat → Prop) : (ps : List PK) → List Value → S.den (packTy (argT ps)) → Prop
  | [], [], _ => True
  | p :: ps, v :: vs, x => one p v x.1 ∧ ValsR S w Z ps vs x.2
  | _, _, _ => False
  where
  one : (p : PK) → Value → S.den p.ty → Prop
  | .val t, v, x => ∃ cs, VS t v cs ∧ S.R w Z t cs x
  | .io _ _, _, _ => True

/-- A row of its own: its block, its length, its cells. -/
def ORow (S : Cx) (w : World) (e : Nat) (u : Ty) (v : Value) (l : List (S.den u)) : Prop :=
  (v = .slice none 0 0 ∧ l = []) ∨ ∃ b c cells, v = .slice (some ⟨b, 0, none⟩) l.length c ∧ w.heap[b]? = some (.cells cells e (0, 0)) ∧ l.length ≤ c ∧ c ≤ maxLen ∧ cells.size = c * S.size u ∧
    ∀ i y, nth l i = some y → S.R w (fun _ => False) u ((cells.toList.drop (i * S.size u)).take (S.size u)) y
def rowOf : Value → Option Nat
  | .slice (some a) _ _ => some a.block
  | _ => none
/-- A function does what is told of it, to a row that it gets in hand. -/
def OsOk (P : Program) (O : OSpec S.toNm) (f : FuncId) : Prop :=
  ∀ (w : World) (Z : Nat → Prop) (v0 : Value) (vs v2 : List Value) (l : List (S.den O.u)) (y : S.den (packTy (argT O.ps))) (l2 l' : List (S.den O.u)),
    (∀ b, Z b → b < w.heap.size) → ORow S w O.e O.u v0 l → (∀ b, rowOf v0 = some b → ¬ Z b) → ValsR S w Z O.ps vs y →
    (match O.two with | true => ∃ u, v2 = [u] ∧ ORow S w O.e O.u u l2 ∧ ∀ b, rowOf u = some b → rowOf v0 ≠ some b | false => v2 = [] ∧ l2 = []) → O.f l y l2 = some l' →
    Enters P f (v0 :: (vs ++ v2)).toArray w fun v w' => w'.os = w.os ∧ w'.tape = w.tape ∧ w'.output = w.output ∧ w.heap.size ≤ w'.heap.size ∧ (∀ b, b < w.heap.size → rowOf v0 ≠ some b → w'.heap[b]? = w.heap[b]?) ∧
      ORow S w' O.e O.u v l' ∧ ∀ b, rowOf v = some b → rowOf v0 = some b ∨ w.heap.size ≤ b

/-- A function does what is told of it. -/
def FnOk0 (P : Program) (F : FSpec S.toNm) (f : FuncId) : Prop :=
  ∀ (w : World) (Z : Nat → Prop) (own : Nat → Option Own) (vs : List Value) (x : S.den (packTy (argT F.ps))) (r : S.den (resTy F.rt (outT (outs F.ps)))),
    (∀ b, Z b → b < w.heap.size ∧ own b = none) → (∀ b, own b ≠ none → b < w.heap.size) → ArgsR S w Z own ioBase F.ps vs x → GlobR S w Z → F.f x = some r →
    Enters P f vs.toArray w fun v w' => ∃ own', Left own own' w w' ∧ ResR w' (zoneOf Z own own' w w') own' F v r.1 ∧ OutsR S w' (zoneOf Z own own' w w') own' (ioArgs ioBase F.ps vs) (outs F.ps) r.2

def FnOk (P : Program) (F : FSpec S.toNm) (f : FuncId) : Prop := match F.o with
  | none => FnOk0 P F f
  | some O => OsOk P O f
theorem FnOk.zero {P : Program} {F : FSpec S.toNm} {f : FuncId} (h : FnOk P F f) (ho : F.o = none) : FnOk0 P F f := by
  unfold FnOk at h; rw [ho] at h; exact h
theorem FnOk.of {P : Program} {F : FSpec S.toNm} {f : FuncId} (ho : F.o = none) (h : FnOk0 P F f) : FnOk P F f := by
  unfold FnOk; rw [ho]; exact h
theorem FnOk.own {P : Program} {F : FSpec S.toNm} {O : OSpec S.toNm} {f : FuncId} (h : FnOk P F f) (ho : F.o = some O) : OsOk P O f := by
  unfold FnOk at h; rw [ho] at h; exact h

variable {g : Gl S} {own : Nat → Option Own} {st : ST S} {a : Act} {w : World}

theorem ValsR.one_mono {w : World} {Z Z' : Nat → Prop} (hZ : ∀ b, Z b → Z' b) {p : PK} {v : Value} {x : S.den p.ty} (h : ValsR.one S w Z p v x) : ValsR.one S w Z' p v x := by
  cases p with
  | val t => obtain ⟨cs, h1, h2⟩ := h; exact ⟨cs, h1, h2.frame hZ (fun _ _ => rfl)⟩
  | io t m => trivial
theorem ValsR.mono {w : World} {Z Z' : Nat → Prop} (hZ : ∀ b, Z b → Z' b) : ∀ (ps : List PK) (vs : List Value) (x : S.den (packTy (argT ps))), ValsR S w Z ps vs x → ValsR S w Z' ps vs x
  | [], [], _, _ => trivial
  | p :: ps, v :: vs, x, h => ⟨ValsR.one_mono hZ h.1, ValsR.mono hZ ps vs x.2 h.2⟩
  | [], _ :: _, _, h => h.elim
  | _ :: _, [], _, h => h.elim

def argZ (g : Gl S) (fz : Bool) (own : Nat → Option Own) (w : World) : Nat → Prop := match fz with | true => g.Z own w | false => g.A w

theorem packOne_ok (ok : S.Ok) {E : Env S} {fz : Bool} (h : Rel g own st a w) {p : PK} {x : Operand} {ty : Nat} {y : S.den p.ty} {st' : ST S} (hp : packOne E fz st p x ty = some (y, st')) :
    ∃ own', Rel g own' st' a w ∧ Lasts own own' ∧ ValsR.one S w (argZ g fz own' w) p (a.eval x) y := by
  cases p with
  | io t m => cases hp; exact ⟨own, h, .refl, trivial⟩
  | val t =>
    simp only [packOne] at hp
    split at hp
    · split at hp
      · rename_i c st1 hc
        split at hp
        · rename_i y' hy
          cases hp
          obtain ⟨own1, cs, h1, hVS, hm, hR, hL⟩ := frz_ok ok E h hc
          obtain ⟨ht, rfl⟩ := cast_some hy
          obtain ⟨ct, cm, cx⟩ := c
          simp only at ht hVS hR
          subst ht
          exact ⟨own1, h1, hL, cs, hVS, hR⟩
        · cases hp
      · cases hp
    · split at hp
      · rename_i c hc
        split at hp
        · rename_i y' hy
          cases hp
          obtain ⟨cs, hVS, hR⟩ := val_ok ok E h hc
          obtain ⟨ht, rfl⟩ := cast_some hy
          obtain ⟨ct, cm, cx⟩ := c
          simp only at ht hVS hR
          subst ht
          exact ⟨own, h, .refl, cs, hVS, hR⟩
        · cases hp
      · cases hp

theorem argZ_mono {fz : Bool} {own own' : Nat → Option Own} (h : Lasts own own') {b : Nat} (hb : argZ g fz own w b) : argZ g fz own' w b := by
  cases fz with
  | true => exact h.Z hb
  | false => exact hb

theorem packArgs_ok (ok : S.Ok) {E : Env S} {fz : Bool} : ∀ (ps : List PK) (xs : List Operand) (ts : List Nat) (own : Nat → Option Own) (st st' : ST S) (y : S.den (packTy (argT ps))), Rel g own st a w →
    packArgs E fz ps xs ts st = some (y, st') → ∃ own', Rel g own' st' a w ∧ Lasts own own' ∧ ValsR S w (argZ g fz own' w) ps (xs.map a.eval) y
  | [], [], _, own, st, st', y, h, hp => by
    simp only [packArgs, Option.some.injEq] at hp
    obtain ⟨_, rfl⟩ := hp
    exact ⟨own, h, .refl, trivial⟩
  | p :: ps, x :: xs, ts, own, st, st', y, h, hp => by
    simp only [packArgs] at hp
    split at hp
    · rename_i y1 st1 h1
      split at hp
      · rename_i y2 st2 h2
        simp only [Option.some.injEq] at hp
        obtain ⟨rfl, rfl⟩ := hp
        obtain ⟨own1, k1, k2, k3⟩ := packOne_ok ok h h1
        obtain ⟨own2, j1, j2, j3⟩ := packArgs_ok ok ps xs ts.tail own1 st1 _ y2 k1 h2
        exact ⟨own2, j1, k2.trans j2, ValsR.one_mono (fun b hb => argZ_mono j2 hb) k3, j3⟩
      · cases hp
    · cases hp
  | [], _ :: _, _, _, _, _, _, _, hp => by simp [packArgs] at hp
  | _ :: _, [], _, _, _, _, _, _, hp => by simp [packArgs] at hp

/-! ### States behind a call -/
structure OutState (st st' : ST S) (ks : List Nat) : Prop where
  look : ∀ i, st'.look i = .dead ∨ (st'.look i = st.look i ∧ (ks ≠ [] → (st.look i).deep = false) ∧ ∀ k ∈ ks, (st.look i).hangs (.mem k) = false)
  root : ∀ r, (∀ k ∈ ks, r ≠ .mem k) → st'.root r = st.root r

/-- What stands at a root is kept by a call that does not get it. -/
theorem Rel.call (ok : S.Ok) (h : Rel g own st a w) {w' : World} {own' : Nat → Option Own} {ks : List Nat} {st' : ST S} (hst : OutState st st' ks)
    (hos : w'.os = w.os) (htape : w'.tape = w.tape) (hout : w'.output = w.output) (hsize : w.heap.size ≤ w'.heap.size)
    (hblk : ∀ b, b < w.heap.size → (∀ k l, k ∈ ks → own b ≠ some (.mem k, l)) → w'.heap[b]? = w.heap[b]? ∧ own' b = own b)
    (hfresh : ∀ b, own' b ≠ none → b < w'.heap.size)
    (hmem : ∀ k b, k ∉ ks → own' b = some (.mem k, none) → b < w.heap.size ∧ ∀ k l, k ∈ ks → own b ≠ some (.mem k, l))
    (hmems : ∀ k c, k ∈ ks → st'.mems.lookup k = some c → MR g own' w' k c ∧ (∀ b, own b = some (.mem k, none) → own' b = some (.mem k, none)) ∧ ∃ c0, st.mems.lookup k = some c0 ∧ c0.t = c.t)
    (hhas : ∀ k, k ∈ ks → ∃ c, st'.mems.lookup k = some c) : Rel g own' st' a w' := by
  have hother : ∀ b r q, (∀ k ∈ ks, r ≠ .mem k) → own b = some (r, q) → w'.heap[b]? = w.heap[b]? ∧ own' b = own b := fun b r q hr hb =>
    hblk b (h.fresh b (by rw [hb]; simp)).2 (fun k l hk e => by rw [hb] at e; exact hr k hk (Prod.mk.inj (Option.some.inj e)).1)
  have hnone : ∀ b, b < w.heap.size → own b = none → w'.heap[b]? = w.heap[b]? ∧ own' b = none := fun b hb hn => by
    obtain ⟨h1, h2⟩ := hblk b hb (fun k l _ e => by rw [hn] at e; cases e)
    exact ⟨h1, h2.trans hn⟩
  have hZ : ∀ b, g.Z own w b → g.Z own' w' b := fun b hb => ⟨hb.1, Nat.lt_of_lt_of_le hb.2.1 hsize, (hnone b hb.2.1 hb.2.2).2⟩
  have hZw : ∀ b, g.Z own w b → w'.heap[b]? = w.heap[b]? := fun b hb => (hnone b hb.2.1 hb.2.2).1
  have hOW : ∀ {r : Root} {t : Ty} {m : Mode} {p : Path} {cs' : List Value} {x : S.den t}, (∀ k ∈ ks, r ≠ .mem k) → S.OW w own (g.Z own w) r t m p cs' x → S.OW w' own' (g.Z own' w') r t m p cs' x := fun hr hO =>
    OW_frame hZ hZw _ _ _ _ _ _ (fun b q hb => ⟨(hother b _ _ hr hb).2.trans hb, (hother b _ _ hr hb).1⟩) hO
  have hRoot : ∀ r, (∀ k ∈ ks, r ≠ .mem k) → ∀ t l cs, RootAt own a w r t l cs → RootAt own' a w' r t l cs := fun r hr t l cs hR => by
    cases r with
    | slot s => exact hR
    | lim => exact hR
    | mem k =>
      obtain ⟨b, e, cl, f1, f2, f3, f4⟩ := hR
      obtain ⟨o1, o2⟩ := hother b _ _ hr f2
      exact ⟨b, e, cl, f1, o2.trans f2, by rw [o1]; exact f3, f4⟩
  -- places
  have hplace : ∀ r p l cs c, (∀ k ∈ ks, r ≠ .mem k) → (ks ≠ [] → p.plain = true) → Place st own a w r p l cs c → Place st' own' a w' r p l cs c := fun r p l cs c hr hp hP => by
    by_cases hks : ks = []
    · obtain ⟨t, m, x, l0, cs0, h1, h2, h3, h4, h5, h6⟩ := hP
      refine ⟨t, m, x, l0, cs0, (hst.root r hr).trans h1, h2, hRoot r hr _ _ _ h3, h4, nav_keep (fun b hb => (hblk b hb (fun k l hk => by rw [hks] at hk; cases hk)).1) _ _ _ _ _ h5, h6⟩
    · exact Place_world hP (hp hks) (hst.root r hr) (hRoot r hr)
  refine ⟨hos.trans h.os, htape.trans h.tape, hout.trans h.output, Nat.le_trans h.size hsize, fun b hb hio => ?_, fun b hb => ?_, fun i => ?_, fun k c hk => ?_, h.defs, fun k b b' hp hb => ?_⟩
  rotate_right
  · by_cases hk' : k ∈ ks
    · obtain ⟨c, hc⟩ := hhas k hk'
      obtain ⟨⟨bm, em, cm, q1, q2, q3, q4⟩, hsame, c0, hc0, _⟩ := hmems k c hk' hc
      obtain ⟨b0, e0, cl, p1, _, _, p4⟩ := h.mems k c0 hc0
      rw [q4 b' hb, ← q4 b0 (hsame b0 p1)]
      exact h.pins k b b0 hp p1
    · obtain ⟨h1, h2⟩ := hmem k b' hk' hb
      exact h.pins k b b' hp (((hblk b' h1 h2).2).symm.trans hb)
  · refine ((hblk b (Nat.lt_of_lt_of_le hb h.size) (fun k l _ e => ?_)).1).trans (h.block b hb hio)
    rcases (h.fresh b (by rw [e]; simp)).1 with hf | hf
    · omega
    · exact hio hf
  · refine ⟨?_, hfresh b hb⟩
    by_cases hbw : b < w.heap.size
    · by_cases ho : own b = none
      · exact absurd (hnone b hbw ho).2 hb
      · exact (h.fresh b ho).1
    · left; have := h.size; omega
  · rcases hst.look i with e | ⟨e, hdp, hh⟩
    · rw [e]; trivial
    · rw [e]
      have hv := h.vals i
      generalize st.look i = A at *
      cases A with
      | dead => trivial
      | und => exact hv
      | v t m y =>
        obtain ⟨cs', e1, e2⟩ := hv
        exact ⟨cs', e1, hOW (by intro k _; simp) e2⟩
      | tup t m y =>
        obtain ⟨vs, e1, e2⟩ := hv
        exact ⟨vs, e1, TupR_frame hZ hZw _ _ _ e2⟩
      | rp t y =>
        obtain ⟨b, off, cs', e1, e2, e3, e4⟩ := hv
        exact ⟨b, off, cs', e1, hZ b e2, by rw [cellsAt_same (hZw b e2)]; exact e3, e4.frame hZ hZw⟩
      | ref r p =>
        obtain ⟨l1, cs1, c1, e1, e2⟩ := hv
        have hr : ∀ k ∈ ks, r ≠ .mem k := fun k hk e => by subst e; have := hh k hk; simp [AVal.hangs] at this
        exact ⟨l1, cs1, c1, hplace r p _ _ _ hr (fun hk => by simpa [AVal.deep] using hdp hk) e1, e2⟩
      | addr r p =>
        obtain ⟨b, off, cs1, c1, e1, e2⟩ := hv
        have hpl : ks ≠ [] → Path.plain p = true := fun hk => by simpa [AVal.deep] using hdp hk
        by_cases hr : ∀ k ∈ ks, r ≠ .mem k
        · exact ⟨b, off, cs1, c1, hplace r p _ _ _ hr hpl e1, e2⟩
        · have : ∃ k, k ∈ ks ∧ r = .mem k := by
            by_cases hex : ∃ k, k ∈ ks ∧ r = .mem k
            · exact hex
            · exact absurd (fun k hk e => hex ⟨k, hk, e⟩) hr
          obtain ⟨k, hk, rfl⟩ := this
          obtain ⟨c, hc⟩ := hhas k hk
          obtain ⟨hMR, hsame, c0, hc0, ht⟩ := hmems k c hk hc
          obtain ⟨t, m, x⟩ := c0
          obtain ⟨t', n, z⟩ := c
          simp only at ht
          subst ht
          obtain ⟨cs2, c2, e3⟩ := e1.plain (own' := own') (a' := a) (w' := w') (st' := st') (hpl (by intro e; rw [e] at hk; cases hk)) (show st.root (.mem k) = some _ from hc0) (show st'.root (.mem k) = some _ from hc) (fun l cs hR => by
            obtain ⟨b0, e0, cl, f1, f2, f3, f4⟩ := hR
            obtain ⟨b1, e1', cells, g1, g2, g3, g4⟩ := hMR
            have := g4 b0 (hsame b0 f2)
            subst this
            exact ⟨_, b0, e1', cells, f1, g1, g2, rfl⟩)
          exact ⟨b, off, cs2, c2, e3, e2⟩
  · by_cases hk' : k ∈ ks
    · exact (hmems k c hk' hk).1
    · have hr : ∀ k' ∈ ks, Root.mem k ≠ .mem k' := fun k' hk'' e => by cases e; exact hk' hk''
      have hk0 : st.root (.mem k) = some c := by rw [← hst.root _ hr]; exact hk
      obtain ⟨b, e, cells, g1, g2, g3, g4⟩ := h.mems k c hk0
      obtain ⟨o1, o2⟩ := hother b _ _ hr g1
      refine ⟨b, e, cells, o2.trans g1, by rw [o1]; exact g2, hOW hr g3, fun b' hb' => ?_⟩
      obtain ⟨h1, h2⟩ := hmem k b' hk' hb'
      exact g4 b' (((hblk b' h1 h2).2).symm.trans hb')
end
end Go.Proofs.YtpmlimdilajidaaDoor.Vm
namespace Go.Proofs.YtpmlimdilajidaaDoor.Vm
open Go Go.RowKit
set_option linter.unusedVariables false

section
variable {S : Cx} {α : Type}
variable {g : Gl S} {own : Nat → Option Own} {st : ST S} {a : Act} {w : World}

/-- The memories handed over, with the numbers that they have there. -/
def ioPairs (E : Env S) (st : ST S) : Nat → List PK → List Operand → List (Nat × Nat)
  | i, .val _ :: ps, _ :: xs => ioPairs E st (i + 1) ps xs
  | i, .io _ _ :: ps, x :: xs => match st.av E x 0 with
    | .addr (.mem k) _ => (k, i) :: ioPairs E st (i + 1) ps xs
    | _ => ioPairs E st (i + 1) ps xs
  | _, _, _ => []

theorem ioPairs_fst {E : Env S} {st : ST S} : ∀ (ps : List PK) (xs : List Operand) (i : Nat), (ioPairs E st i ps xs).map Prod.fst = ioMems E st ps xs
  | [], _, _ => by cases ‹List Operand› <;> rfl
  | .val t :: ps, [], _ => rfl
  | .io t m :: ps, [], _ => rfl
  | .val t :: ps, x :: xs, i => ioPairs_fst ps xs (i + 1)
  | .io t m :: ps, x :: xs, i => by
    have ih := ioPairs_fst (E := E) (st := st) ps xs (i + 1)
    simp only [ioPairs, ioMems]
    split <;> rename_i h <;> simp only [h, List.map_cons, ih]
theorem ioPairs_ge {E : Env S} {st : ST S} : ∀ (ps : List PK) (xs : List Operand) (i : Nat) (k j : Nat), (k, j) ∈ ioPairs E st i ps xs → i ≤ j
  | [], xs, _, _, _, h => by cases xs <;> cases h
  | .val t :: ps, [], _, _, _, h => by cases h
  | .io t m :: ps, [], _, _, _, h => by cases h
  | .val t :: ps, x :: xs, i, k, j, h => Nat.le_of_succ_le (ioPairs_ge ps xs (i + 1) k j h)
  | .io t m :: ps, x :: xs, i, k, j, h => by
    simp only [ioPairs] at h
    split at h
    · rcases List.mem_cons.1 h with e | h
      · cases e; exact Nat.le_refl _
      · exact Nat.le_of_succ_le (ioPairs_ge ps xs (i + 1) k j h)
    · exact Nat.le_of_succ_le (ioPairs_ge ps xs (i + 1) k j h)
theorem ioPairs_inj {E : Env S} {st : ST S} : ∀ (ps : List PK) (xs : List Operand) (i : Nat) (k k' j : Nat), (k, j) ∈ ioPairs E st i ps xs → (k', j) ∈ ioPairs E st i ps xs → k = k'
  | [], xs, _, _, _, _, h, _ => by cases xs <;> cases h
  | .val t :: ps, [], _, _, _, _, h, _ => by cases h
  | .io t m :: ps, [], _, _, _, _, h, _ => by cases h
  | .val t :: ps, x :: xs, i, k, k', j, h, h' => ioPairs_inj ps xs (i + 1) k k' j h h'
  | .io t m :: ps, x :: xs, i, k, k', j, h, h' => by
    simp only [ioPairs] at h h'
    split at h
    · rename_i k0 q e
      simp only [e] at h'
      rcases List.mem_cons.1 h with e1 | h1
      · cases e1
        rcases List.mem_cons.1 h' with e2 | h2
        · cases e2; rfl
        · exact absurd (ioPairs_ge ps xs (i + 1) k' i h2) (by omega)
      · rcases List.mem_cons.1 h' with e2 | h2
        · cases e2; exact absurd (ioPairs_ge ps xs (i + 1) k i h1) (by omega)
        · exact ioPairs_inj ps xs (i + 1) k k' j h1 h2
    · rename_i hne
      have : ioPairs E st (i + 1) ps xs = (match st.av E x 0 with | .addr (.mem k) _ => (k, i) :: ioPairs E st (i + 1) ps xs | _ => ioPairs E st (i + 1) ps xs) := by
        split
        · rename_i k0 q e; exact absurd e (hne k0 q)
        · rfl
      rw [← this] at h'
      exact ioPairs_inj ps xs (i + 1) k k' j h h'

theorem distinct_lookup : ∀ (l : List (Nat × Nat)), distinct (l.map Prod.fst) = true → ∀ k i, (k, i) ∈ l → l.lookup k = some i
  | [], _, _, _, h => by cases h
  | (k0, i0) :: l, hd, k, i, h => by
    simp only [List.map_cons, distinct, Bool.and_eq_true, Bool.not_eq_true'] at hd
    rw [List.lookup_cons]
    rcases List.mem_cons.1 h with e | h2
    · cases e; simp
    · have hne : k ≠ k0 := by
        intro e
        have : (l.map Prod.fst).contains k0 = true := by simp; exact ⟨i, e ▸ h2⟩
        rw [this] at hd; exact absurd hd.1 (by simp)
      have : (k == k0) = false := by simpa using hne
      rw [this]
      exact distinct_lookup l hd.2 k i h2
theorem lookup_pair : ∀ (l : List (Nat × Nat)) (k i : Nat), l.lookup k = some i → (k, i) ∈ l
  | [], _, _, h => by cases h
  | (k0, i0) :: l, k, i, h => by
    rw [List.lookup_cons] at h
    cases hk : k == k0
    · rw [hk] at h; exact List.mem_cons_of_mem _ (lookup_pair l k i h)
    · rw [hk] at h
      have : k = k0 := by simpa using hk
      cases h; subst this; exact List.mem_cons_self ..

/-- Whose a block is, as who is called sees it. -/
def ownIn (pr : List (Nat × Nat)) (own : Nat → Option Own) : Nat → Option Own := fun b =>
  match own b with
  | some (.mem k, l) => match pr.lookup k with
    | some i => some (.mem i, l)
    | none => none
  | _ => none
open Classical in
noncomputable def ownOut (pr : List (Nat × Nat)) (own own' : Nat → Option Own) : Nat → Option Own := fun b =>
  match own' b with
  | none => if ownIn pr own b = none then own b else none
  | some (.lim, l) => some (.lim, l)
  | some (.slot _, _) => some (.lim, none)
  | some (.mem i, l) => if h : ∃ k, (k, i) ∈ pr then some (.mem h.choose, l) else some (.lim, none)

theorem ownIn_some {pr : List (Nat × Nat)} {own : Nat → Option Own} {b k i : Nat} {l : Option Path} (h : own b = some (.mem k, l)) (hp : pr.lookup k = some i) : ownIn pr own b = some (.mem i, l) := by
  simp only [ownIn, h, hp]
theorem ownIn_inv {pr : List (Nat × Nat)} {own : Nat → Option Own} {b : Nat} {r : Root} {l : Option Path} (h : ownIn pr own b = some (r, l)) : ∃ k i, own b = some (.mem k, l) ∧ pr.lookup k = some i ∧ r = .mem i := by
  unfold ownIn at h
  split at h
  · rename_i k l' e
    split at h
    · rename_i i hp; cases h; exact ⟨k, i, e, hp, rfl⟩
    · cases h
  · cases h
theorem ownOut_mem {pr : List (Nat × Nat)} {own own' : Nat → Option Own} (hinj : ∀ k k' j, (k, j) ∈ pr → (k', j) ∈ pr → k = k') {b k i : Nat} {l : Option Path} (h : own' b = some (.mem i, l)) (hp : (k, i) ∈ pr) :
    ownOut pr own own' b = some (.mem k, l) := by
  have he : ∃ k, (k, i) ∈ pr := ⟨k, hp⟩
  simp only [ownOut, h, dif_pos he]
  rw [hinj _ _ _ he.choose_spec hp]
theorem ownOut_lim {pr : List (Nat × Nat)} {own own' : Nat → Option Own} {b : Nat} {l : Option Path} (h : own' b = some (.lim, l)) : ownOut pr own own' b = some (.lim, l) := by simp only [ownOut, h]
theorem ownOut_none {pr : List (Nat × Nat)} {own own' : Nat → Option Own} {b : Nat} (h : own' b = none) : ownOut pr own own' b = if ownIn pr own b = none then own b else none := by simp only [ownOut, h]
theorem ownOut_inv {pr : List (Nat × Nat)} {own own' : Nat → Option Own} {b k : Nat} (h : ownOut pr own own' b = some (.mem k, none)) :
    (∃ i, own' b = some (.mem i, none) ∧ (k, i) ∈ pr) ∨ (own' b = none ∧ ownIn pr own b = none ∧ own b = some (.mem k, none)) := by
  unfold ownOut at h
  split at h
  · rename_i e
    split at h
    · rename_i e2; exact .inr ⟨e, e2, h⟩
    · cases h
  · cases h
  · cases h
  · rename_i i l e
    split at h
    · rename_i he
      cases h
      exact .inl ⟨i, e, he.choose_spec⟩
    · cases h

/-- The memories that are handed over are as the vm has them. -/
theorem ios_ok (ok : S.Ok) {E : Env S} (h : Rel g own st a w) {Z : Nat → Prop} (hZ : ∀ b, g.Z own w b → Z b) {own' : Nat → Option Own} :
    ∀ (ps : List PK) (xs : List Operand) (i : Nat) (y1 y : S.den (packTy (argT ps))), packIos E st ps xs y1 = some y → ValsR S w Z ps (xs.map a.eval) y1 →
    (∀ k j, (k, j) ∈ ioPairs E st i ps xs → (∀ b l, own b = some (.mem k, l) → own' b = some (.mem j, l)) ∧ (∀ b, own' b = some (.mem j, none) → own b = some (.mem k, none))) →
    ArgsR S w Z own' i ps (xs.map a.eval) y
  | [], [], _, _, _, _, _, _ => trivial
  | [], _ :: _, _, _, _, hp, _, _ => by simp [packIos] at hp
  | _ :: _, [], _, _, _, hp, _, _ => by simp [packIos] at hp
  | p :: ps, x :: xs, i, y1, y, hp, hv, ho => by
    simp only [packIos] at hp
    split at hp
    · rename_i u v e1 e2
      cases hp
      cases p with
      | val t =>
        cases e1
        exact ⟨hv.1, ios_ok ok h hZ ps xs (i + 1) y1.2 v e2 hv.2 ho⟩
      | io t m =>
        simp only [ioOne] at e1
        split at e1
        · rename_i k ex
          split at e1
          · rename_i c hc
            split at e1
            · rename_i hm _
              have hav := av_ok E h x 0 0
              rw [ex] at hav
              obtain ⟨b, off, cs', c', hP, v1⟩ := hav
              obtain ⟨t0, m0, x0, l0, cs0, h1, h2, h3, h4, h5, h6⟩ := hP
              have h1' : st.mems.lookup k = some ⟨t0, m0, x0⟩ := h1
              rw [hc] at h1'
              cases h1'
              obtain ⟨b0, e0, cl, f1, f2, f3, f4⟩ := h3
              obtain ⟨bk, ek, cells, g1, g2, g3, g4⟩ := h.mems k _ hc
              have := g4 b0 f2
              subst this
              rw [nav_nil] at h5
              have h5 := Option.some.inj h5
              rw [f1] at h5
              have h5 := congrArg Prod.fst h5
              simp only [Option.some.injEq, Prod.mk.injEq] at h5
              obtain ⟨rfl, rfl⟩ := h5
              obtain ⟨ht, rfl⟩ := cast_some e1
              simp only at ht hm
              subst ht
              subst hm
              have hpair : (k, i) ∈ ioPairs E st i (.io t0 m0 :: ps) (x :: xs) := by simp only [ioPairs, ex]; exact List.mem_cons_self ..
              obtain ⟨o1, o2⟩ := ho k i hpair
              refine ⟨⟨b0, ek, cells, v1, o1 b0 _ g1, g2, OW_frame hZ (fun _ _ => rfl) _ _ _ _ _ _ (fun b q hb => ⟨o1 b _ hb, rfl⟩) g3, fun b' hb' => g4 b' (o2 b' hb')⟩, ?_⟩
              exact ios_ok ok h hZ ps xs (i + 1) y1.2 v e2 hv.2 (fun k' j hj => ho k' j (by simp only [ioPairs, ex]; exact List.mem_cons_of_mem _ hj))
            · cases e1
          · cases e1
        · cases e1
    · cases hp

theorem scalar_R {w w' : World} {Z Z' : Nat → Prop} : ∀ (t : Ty) (cs : List Value) (x : S.den t), t.scalar = true → S.R w Z t cs x → S.R w' Z' t cs x := by
  intro t
  induction t with
  | int k => intro cs x _ h; exact Cx.R_int.2 (Cx.R_int.1 h)
  | bool => intro cs x _ h; exact Cx.R_bool.2 (Cx.R_bool.1 h)
  | str => intro cs x _ h; exact Cx.R_str.2 (Cx.R_str.1 h)
  | unit => intro cs x _ h; exact Cx.R_unit.2 (Cx.R_unit.1 h)
  | pair a b iha ihb =>
    intro cs x hs h
    simp only [Ty.scalar, Bool.and_eq_true] at hs
    obtain ⟨c1, c2, h1, h2, h3, h4⟩ := Cx.R_pair.1 h
    exact Cx.R_pair.2 ⟨c1, c2, h1, h2, iha _ _ hs.1 h3, ihb _ _ hs.2 h4⟩
  | agg t ih => intro cs x hs h; exact Cx.R_agg.2 (ih _ _ hs (Cx.R_agg.1 h))
  | _ => intro cs x hs _; cases hs
theorem scalar_TupR {w w' : World} {Z Z' : Nat → Prop} : ∀ (t : Ty) (x : S.den t) (vs : List Value), t.scalar = true → TupR w Z t x vs → TupR w' Z' t x vs := by
  intro t
  induction t with
  | pair a b iha ihb =>
    intro x vs hs h
    simp only [Ty.scalar, Bool.and_eq_true] at hs
    cases vs with
    | nil => exact h.elim
    | cons v vs =>
      obtain ⟨⟨cs, h1, h2⟩, h3⟩ := h
      exact ⟨⟨cs, h1, scalar_R _ _ _ hs.1 h2⟩, ihb _ _ hs.2 h3⟩
  | _ =>
    intro x vs hs h
    match vs, h with
    | [v], ⟨cs, h1, h2⟩ => exact ⟨cs, h1, scalar_R _ _ _ hs h2⟩

/-- What comes back of the memories. -/
theorem outs_ok {E : Env S} {st0 : ST S} {w' : World} {Z' : Nat → Prop} {ownC : Nat → Option Own} : ∀ (ps : List PK) (xs : List Operand) (i : Nat) (x y1 : S.den (packTy (argT ps))) (r : S.den (packTy (outT (outs ps)))) (st st' : ST S),
    packIos E st0 ps xs y1 = some x → putOuts (ioMems E st0 ps xs) (outs ps) r st = some st' → OutsR S w' Z' ownC (ioArgs i ps (xs.map a.eval)) (outs ps) r → distinct (ioMems E st0 ps xs) = true →
    (∀ j, st'.look j = .dead ∨ (st'.look j = st.look j ∧ (ioMems E st0 ps xs ≠ [] → (st.look j).deep = false) ∧ ∀ k ∈ ioMems E st0 ps xs, (st.look j).hangs (.mem k) = false)) ∧
    (∀ r, (∀ k ∈ ioMems E st0 ps xs, r ≠ .mem k) → st'.root r = st.root r) ∧
    (∀ k j, (k, j) ∈ ioPairs E st0 i ps xs → ∃ c v x, (st0.av E x 0 = .addr (.mem k) [] ∧ v = a.eval x) ∧ st'.mems.lookup k = some c ∧ IoR S w' Z' ownC j v c.t c.m c.x ∧ ∃ c0, st0.mems.lookup k = some c0 ∧ c0.t = c.t)
  | [], [], i, x, y1, r, st, st', _, hp, _, _ => by
    cases hp
    exact ⟨fun j => .inr ⟨rfl, fun h => absurd rfl h, fun k hk => by cases hk⟩, fun r _ => rfl, fun k j h => by cases h⟩
  | [], _ :: _, _, _, _, _, _, _, h, _, _, _ => by simp [packIos] at h
  | _ :: _, [], _, _, _, _, _, _, h, _, _, _ => by simp [packIos] at h
  | .val t :: ps, xo :: xs, i, x, y1, r, st, st', h, hp, hO, hd => by
    simp only [packIos] at h
    split at h
    · rename_i u v e1 e2
      exact outs_ok ps xs (i + 1) v y1.2 r st st' e2 hp hO hd
    · cases h
  | .io t m :: ps, xo :: xs, i, x, y1, r, st, st', h, hp, hO, hd => by
    simp only [packIos] at h
    split at h
    · rename_i u v e1 e2
      simp only [ioOne] at e1
      split at e1
      · rename_i k ex
        split at e1
        · rename_i c hc
          split at e1
          · rename_i hm _
            obtain ⟨ht, _⟩ := cast_some e1
            have hks : ioMems E st0 (.io t m :: ps) (xo :: xs) = k :: ioMems E st0 ps xs := by simp only [ioMems, ex]
            have hprs : ioPairs E st0 i (.io t m :: ps) (xo :: xs) = (k, i) :: ioPairs E st0 (i + 1) ps xs := by simp only [ioPairs, ex]
            rw [hks] at hp hd
            simp only [distinct, Bool.and_eq_true, Bool.not_eq_true'] at hd
            have hnk : k ∉ ioMems E st0 ps xs := fun hk => by
              have : (ioMems E st0 ps xs).contains k = true := by simpa using hk
              rw [this] at hd; exact absurd hd.1 (by simp)
            have hp' : putOuts (ioMems E st0 ps xs) (outs ps) r.2 ((st.killW (.mem k)).setRoot (.mem k) ⟨t, m, r.1⟩) = some st' := hp
            obtain ⟨hO1, hO2⟩ : IoR S w' Z' ownC i (a.eval xo) t m r.1 ∧ OutsR S w' Z' ownC (ioArgs (i + 1) ps (xs.map a.eval)) (outs ps) r.2 := hO
            obtain ⟨j1, j2, j3⟩ := outs_ok ps xs (i + 1) v y1.2 r.2 _ st' e2 hp' hO2 hd.2
            rw [hks, hprs]
            refine ⟨fun j => ?_, fun r' hr' => ?_, fun k' j' hkj => ?_⟩
            · rcases j1 j with e | ⟨e, f1, f2⟩
              · exact .inl e
              · have : ((st.killW (.mem k)).setRoot (.mem k) ⟨t, m, r.1⟩).look j = (st.killW (.mem k)).look j := rfl
                rw [this, St.killW, look_killBy _ _ _ rfl] at e f1 f2
                cases hh : ((st.look j).hangs (.mem k) || (st.look j).deep)
                · rw [hh] at e f1 f2
                  rw [Bool.or_eq_false_iff] at hh
                  refine .inr ⟨e, fun _ => hh.2, fun k' hk' => ?_⟩
                  rcases List.mem_cons.1 hk' with rfl | hk'
                  · exact hh.1
                  · exact f2 k' hk'
                · rw [hh] at e; exact .inl e
            · rw [j2 r' (fun k' hk' => hr' k' (List.mem_cons_of_mem _ hk')), root_setRoot _ _ _ _ (by simp), if_neg (hr' k (List.mem_cons_self ..))]
              exact root_killBy st _ (fun _ _ _ => rfl) rfl r'
            · rcases List.mem_cons.1 hkj with e | hkj
              · cases e
                refine ⟨⟨t, m, r.1⟩, a.eval xo, xo, ⟨ex, rfl⟩, ?_, hO1, c, hc, ht⟩
                have := j2 (.mem k) (fun k2 hk2 e => by cases e; exact hnk hk2)
                rw [root_setRoot _ _ _ _ (by simp), if_pos rfl] at this
                exact this
              · exact j3 k' j' hkj
          · cases e1
        · cases e1
      · cases e1
    · cases h

theorem args_io : ∀ {E : Env S} {st0 : ST S} {Z : Nat → Prop} {ownC : Nat → Option Own} (ps : List PK) (xs : List Operand) (i : Nat) (x : S.den (packTy (argT ps))),
    ArgsR S w Z ownC i ps (xs.map a.eval) x → ∀ k j, (k, j) ∈ ioPairs E st0 i ps xs → ∃ xo q t m y, st0.av E xo 0 = .addr (.mem k) q ∧ IoR S w Z ownC j (a.eval xo) t m y
  | _, _, _, _, [], xs, _, _, _, _, _, h => by cases xs <;> cases h
  | _, _, _, _, .val t :: ps, [], _, _, _, _, _, h => by cases h
  | _, _, _, _, .io t m :: ps, [], _, _, _, _, _, h => by cases h
  | _, _, _, _, .val t :: ps, xo :: xs, i, x, hA, k, j, h => args_io ps xs (i + 1) x.2 hA.2 k j h
  | _, st0, _, _, .io t m :: ps, xo :: xs, i, x, hA, k, j, h => by
    simp only [ioPairs] at h
    split at h
    · rename_i k0 q e
      rcases List.mem_cons.1 h with e1 | h
      · cases e1
        exact ⟨xo, q, t, m, _, e, hA.1⟩
      · exact args_io ps xs (i + 1) x.2 hA.2 k j h
    · exact args_io ps xs (i + 1) x.2 hA.2 k j h

theorem outIO_nil {ps : List PK} {E : Env S} {st : ST S} {xs : List Operand} (h : ps.any PK.isIo = false) : ∀ i, ioPairs E st i ps xs = [] ∧ outs ps = [] := by
  induction ps generalizing xs with
  | nil => intro i; exact ⟨by cases xs <;> rfl, rfl⟩
  | cons p ps ih =>
    simp only [List.any_cons, Bool.or_eq_false_iff] at h
    intro i
    cases p with
    | val t =>
      cases xs with
      | nil => exact ⟨rfl, (ih (xs := []) h.2 0).2⟩
      | cons x xs => exact ⟨(ih h.2 (i + 1)).1, (ih (xs := xs) h.2 0).2⟩
    | io t m => exact absurd h.1 (by simp [PK.isIo])

theorem execOp_call {o : Oper} {c : Call} {f : Nat} (ho : o.op = .call c) (hc : c.callee = .value (.func f)) : execOp a.eval o = callFunc f (c.args.map a.eval) := by
  simp only [execOp, ho, resolve, hc, Act.eval, Deferred.ofValue, pure_bind, invoke]
  simp

def keepsOp (E : Env S) (o : Oper) : Bool :=
  match o.op with
  | .store .. => false
  | .mapUpdate .. => false
  | .call c => match c.callee with
    | .value (.func f) => match E.fs f with
      | some F => !F.ps.any PK.isIo && F.o.isNone
      | none => true
    | .builtin .append => false
    | _ => true
  | _ => true

theorem do_enters {o : Oper} {c : Call} {f : Nat} {κ : ST S → Option α} {r : α} {keep : Bool} (ho : o.op = .call c) (hc : c.callee = .value (.func f))
    (h : Enters g.P f (c.args.map a.eval) w fun v w' => ∃ own' st', Rel g own' st' (a.put o.dst v) w' ∧ κ st' = some r ∧ (keep = true → Below w.heap.size w w')) : Do g keep o a w κ r := by
  intro Q
  unfold Oper.wp
  rw [execOp_call ho hc]
  unfold Enters at h
  split at h
  · rename_i v w' e
    rw [e]
    obtain ⟨own', st', h1, h2, h3⟩ := h
    exact ⟨own', st', h1, h2, tmps_put_size, h3⟩
  · rename_i f' args' w' e
    rw [e]
    refine Calls.mono h fun e w'' he => ?_
    obtain ⟨v, rfl, own', st', h1, h2, h3⟩ := he
    exact ⟨own', st', h1, h2, tmps_put_size, h3⟩
  · exact h.elim

theorem Enters.mono {P : Program} {f : FuncId} {args : Array Value} {R R' : Value → World → Prop} (h : Enters P f args w R) (hr : ∀ v w', R v w' → R' v w') : Enters P f args w R' := by
  unfold Enters at *
  split at h
  · exact hr _ _ h
  · exact Calls.mono h fun e w'' ⟨v, he, hR⟩ => ⟨v, he, hr _ _ hR⟩
  · exact h.elim

theorem Z_argZ {fz : Bool} {b : Nat} (h : g.Z own w b) : argZ g fz own w b := by
  cases fz
  · exact Z_A h
  · exact h

/-- What a call hands back is put. -/
theorem put_res (h : Rel g own st a w) (hn : Hint) {d : Nat} (hpin : g.pin d = none) (hd : d < a.tmps.size) {rt : Ty} {rm : Mode} {v : Value} {x : S.den rt} (hR : Res1 S w (g.Z own w) own rt rm v x) :
    ∃ own', Rel g own' (putRes1 hn d rt rm x st) (a.put (some d) v) w := by
  cases rt with
  | box t => cases rm with
    | own m =>
      obtain ⟨b, e, cells, rfl, h2, h3, h4⟩ := hR
      exact h.asMem hn hpin hd (c := ⟨t, m, x⟩) h2 h3 h4
    | _ =>
      obtain ⟨cs, hVS, hO⟩ := hR
      exact put_lim h hn hd (c := ⟨_, _, x⟩) hVS hO
  | _ =>
    obtain ⟨cs, hVS, hO⟩ := hR
    exact put_lim h hn hd (c := ⟨_, rm, x⟩) hVS hO
theorem res_apart {w' : World} {Z Z' : Nat → Prop} {own own' : Nat → Option Own} {rt : Ty} {rm : Mode} {v : Value} {x : S.den rt} (h1 : rt.scalar = true) (h2 : rm.isRo = true) (h : Res1 S w' Z own rt rm v x) : Res1 S w' Z' own' rt rm v x := by
  have hro : rm = .ro := by cases rm <;> first | rfl | cases h2
  subst hro
  obtain ⟨cs, hVS, hO⟩ := h.ro
  exact .of ⟨cs, hVS, OW_ro.2 (scalar_R _ _ _ h1 (OW_ro.1 hO))⟩

theorem do_callK {o : Oper} {c : Call} {f : Nat} {F : FSpec S.toNm} {hn : Hint} {κ : ST S → Option α} {r : α} (ok : S.Ok) (hF : g.E.fs f = some F) (hok : FnOk0 g.P F f) (hpin : ∀ d, d < a.tmps.size → g.pin d = none) (h : Rel g own st a w) (hd : ∀ d, o.dst = some d → d < a.tmps.size)
    (ho : o.op = .call c) (hc : c.callee = .value (.func f)) (hκ : callK g.E hn F c.args.toList c.argTypes.toList o.dst st κ = some r) : Do g (keepsOp g.E o) o a w κ r := by
  unfold callK at hκ
  · split at hκ
    · cases hκ
    · rename_i y1 st1 hpack
      split at hκ
      · cases hκ
      · rename_i hdist
        split at hκ
        · cases hκ
        · rename_i x hios
          obtain ⟨res, hf, hk2⟩ := bindR_some hκ
          clear hκ
          split at hk2
          · rename_i st2 hput
            obtain ⟨own1, h1, hL, hV⟩ := packArgs_ok ok F.ps c.args.toList c.argTypes.toList own st st1 y1 h hpack
            generalize hxs : c.args.toList = xs at *
            generalize hZd : argZ g (!F.apart) own1 w = Z at *
            have hZ1 : ∀ b, g.Z own1 w b → Z b := fun b hb => by
              rw [← hZd]; exact Z_argZ hb
            have hxa : (xs.map a.eval).toArray = c.args.map a.eval := by rw [← hxs]; apply Array.ext'; simp
            let pr := ioPairs g.E st1 ioBase F.ps xs
            have hprd : distinct (pr.map Prod.fst) = true := by rw [ioPairs_fst]; exact hdist
            have hinj : ∀ k k' j, (k, j) ∈ pr → (k', j) ∈ pr → k = k' := fun k k' j => ioPairs_inj F.ps xs ioBase k k' j
            have hks : ∀ k, k ∈ ioMems g.E st1 F.ps xs ↔ ∃ i, (k, i) ∈ pr := fun k => by
              rw [← ioPairs_fst F.ps xs ioBase, List.mem_map]
              exact ⟨fun ⟨p, hp, e⟩ => ⟨p.2, by subst e; exact hp⟩, fun ⟨i, hp⟩ => ⟨_, hp, rfl⟩⟩
            have hap : F.apart = true → pr = [] ∧ outs F.ps = [] := fun ha => by
              simp only [FSpec.apart, Bool.and_eq_true, Bool.not_eq_true'] at ha
              exact outIO_nil ha.2 ioBase
            have hin : ∀ b, own1 b = none → ownIn pr own1 b = none := fun b hb => by simp only [ownIn, hb]
            have hArgs : ArgsR S w Z (ownIn pr own1) ioBase F.ps (xs.map a.eval) x :=
              ios_ok ok h1 hZ1 F.ps xs ioBase y1 x hios hV (fun k j hkj => ⟨fun b l hb => ownIn_some hb (distinct_lookup pr hprd k j hkj), fun b hb => by
                obtain ⟨k', i, e1, e2, e3⟩ := ownIn_inv hb
                cases e3
                have := hinj _ _ _ hkj (lookup_pair pr k' _ e2)
                subst this; exact e1⟩)
            have hent := hok w Z (ownIn pr own1) (xs.map a.eval) x res (fun b hb => by
                rw [← hZd] at hb
                cases hna : F.apart
                · rw [hna] at hb
                  have hb : g.Z own1 w b := hb
                  exact ⟨hb.2.1, hin b hb.2.2⟩
                · rw [hna] at hb
                  have hb : g.A w b := hb
                  have := (hap hna).1
                  exact ⟨hb.2, by
                    cases e : ownIn pr own1 b with
                    | none => rfl
                    | some rl =>
                      obtain ⟨k, i, _, e2, _⟩ := ownIn_inv (r := rl.1) (l := rl.2) e
                      rw [this] at e2; cases e2⟩)
              (fun b hb => by
                cases e : own1 b with
                | none => exact absurd (hin b e) hb
                | some rl => exact (h1.fresh b (by rw [e]; simp)).2) hArgs (h1.glob.frame hZ1 (fun _ _ => rfl)) hf
            refine do_enters ho hc (Enters.mono (by rw [hxa] at hent; exact hent) fun v w' hres => ?_)
            obtain ⟨ownC', hleft, hR, hO⟩ := hres
            obtain ⟨j1, j2, j3⟩ := outs_ok F.ps xs ioBase x y1 res.2 st1 st2 hios hput hO hdist
            have hmap : (List.map a.eval xs) = (List.map a.eval xs) := rfl
            let own2 := ownOut pr own1 ownC'
            have hlt1 : ∀ b, own1 b ≠ none → b < w.heap.size := fun b hb => (h1.fresh b hb).2
            have inNone : ∀ b, (∀ k l, k ∈ ioMems g.E st1 F.ps xs → own1 b ≠ some (.mem k, l)) → ownIn pr own1 b = none := fun b hb => by
              cases e : ownIn pr own1 b with
              | none => rfl
              | some rl =>
                obtain ⟨k, i, e1, e2, _⟩ := ownIn_inv (r := rl.1) (l := rl.2) e
                exact absurd e1 (hb k _ ((hks k).2 ⟨i, lookup_pair pr k i e2⟩))
            have cNone : ∀ b, b < w.heap.size → ownIn pr own1 b = none → ownC' b = none := fun b hb hi => by
              cases e : ownC' b with
              | none => rfl
              | some _ =>
                rcases (hleft.own b (by rw [e]; simp)).2 with h' | h'
                · omega
                · exact absurd hi h'
            have hZ2 : F.apart = false → ∀ b, zoneOf Z (ownIn pr own1) ownC' w w' b → g.Z own2 w' b := fun hna b hb => by
              obtain ⟨hb1, hb2, hb3⟩ := hb
              have e2 : own2 b = if ownIn pr own1 b = none then own1 b else none := ownOut_none hb3
              rcases hb1 with hb1 | hb1 | hb1
              · have : g.Z own1 w b := by
                  rw [← hZd, hna] at hb1; exact hb1
                exact ⟨this.1, hb2, by rw [e2, if_pos (hin b this.2.2)]; exact this.2.2⟩
              · have hn1 : own1 b = none := by
                  cases e : own1 b with
                  | none => rfl
                  | some _ => have := hlt1 b (by rw [e]; simp); omega
                exact ⟨.inr (.inl (Nat.le_trans h1.size hb1)), hb2, by rw [e2, if_pos (hin b hn1)]; exact hn1⟩
              · have hn1 : own1 b ≠ none := fun e => hb1 (hin b e)
                exact ⟨.inr (h1.fresh b hn1).1, hb2, by rw [e2, if_neg hb1]⟩
            have hrel : Rel g own2 st2 a w' := by
              refine h1.call ok (ks := ioMems g.E st1 F.ps xs) ⟨j1, j2⟩ hleft.os hleft.tape hleft.output hleft.size (fun b hb hno => ?_) (fun b hb => ?_) (fun k b hk hb => ?_) (fun k c' hk hc' => ?_) (fun k hk => ?_)
              · have hi := inNone b hno
                refine ⟨hleft.block b hb hi, ?_⟩
                show ownOut pr own1 ownC' b = own1 b
                rw [ownOut_none (cNone b hb hi), if_pos hi]
              · by_cases hcb : ownC' b = none
                · have e2 : own2 b = if ownIn pr own1 b = none then own1 b else none := ownOut_none hcb
                  have : own1 b ≠ none := fun e => by rw [e2, e] at hb; split at hb <;> exact hb rfl
                  exact Nat.lt_of_lt_of_le (hlt1 b this) hleft.size
                · exact (hleft.own b hcb).1
              · rcases ownOut_inv hb with ⟨i, _, hp⟩ | ⟨_, _, e⟩
                · exact absurd ((hks k).2 ⟨i, hp⟩) hk
                · exact ⟨hlt1 b (by rw [e]; simp), fun k' l hk' e' => by rw [e] at e'; cases e'; exact hk hk'⟩
              · obtain ⟨i, hki⟩ := (hks k).1 hk
                obtain ⟨c2, v2, xo, ⟨ex, rfl⟩, hl, hIo, c0, hc0, ht⟩ := j3 k i hki
                rw [hl] at hc'
                cases hc'
                obtain ⟨b, e, cells, f1, f2, f3, f4, f5⟩ := hIo
                have hna : F.apart = false := by
                  cases e : F.apart with
                  | false => rfl
                  | true =>
                    have := (hap e).1
                    have hki' : (k, i) ∈ pr := hki
                    rw [this] at hki'; cases hki'
                obtain ⟨xo', q', t', m', y', ex', hI0⟩ := args_io F.ps xs ioBase x hArgs k i hki
                refine ⟨⟨b, e, cells, ownOut_mem hinj f2 hki, f3, OW_frame (hZ2 hna) (fun _ _ => rfl) _ _ _ _ _ _ (fun b' q hb' => ⟨ownOut_mem hinj hb' hki, rfl⟩) f4, fun b' hb' => ?_⟩, fun b0 hb0 => ?_, c0, hc0, ht⟩
                · rcases ownOut_inv hb' with ⟨i', g1, g2⟩ | ⟨_, g2, g3⟩
                  · have e1 := distinct_lookup pr hprd k i hki
                    have e2 := distinct_lookup pr hprd k i' g2
                    rw [e1] at e2
                    cases e2
                    exact f5 b' g1
                  · rw [ownIn_some g3 (distinct_lookup pr hprd k i hki)] at g2; cases g2
                · have hav := av_ok g.E h1 xo 0 0
                  rw [ex] at hav
                  obtain ⟨bb, off, cs1, c1, hP, v1⟩ := hav
                  obtain ⟨t3, m3, x3, l3, cs3, p1, p2, p3, p4, p5, p6⟩ := hP
                  obtain ⟨b4, e4, cl4, q1, q2, q3, q4⟩ := p3
                  rw [nav_nil] at p5
                  have p5 := congrArg Prod.fst (Option.some.inj p5)
                  rw [q1] at p5
                  simp only [Option.some.injEq, Prod.mk.injEq] at p5
                  obtain ⟨rfl, rfl⟩ := p5
                  rw [f1] at v1
                  have : b = b4 := by simpa using v1
                  subst this
                  obtain ⟨bk, ek, ck, g1, g2, g3, g4⟩ := h1.mems k _ p1
                  have e1 := g4 b0 hb0
                  have e2 := g4 b q2
                  rw [e1, ← e2]
                  exact ownOut_mem hinj f2 hki
              · obtain ⟨i, hki⟩ := (hks k).1 hk
                obtain ⟨c2, v2, xo, _, hl, _⟩ := j3 k i hki
                exact ⟨c2, hl⟩
            have hkeep : keepsOp g.E o = true → Below w.heap.size w w' := fun hk => by
              simp only [keepsOp, ho, hc, hF, Bool.and_eq_true, Bool.not_eq_true'] at hk
              have hk := hk.1
              have hpr : pr = [] := (outIO_nil hk ioBase).1
              exact ⟨hleft.os, hleft.tape, hleft.output, hleft.size, fun b hb => hleft.block b hb (by
                cases e : ownIn pr own1 b with
                | none => rfl
                | some rl =>
                  obtain ⟨k, i, _, e2, _⟩ := ownIn_inv (r := rl.1) (l := rl.2) e
                  rw [hpr] at e2; cases e2)⟩
            cases hdst : o.dst with
            | none =>
              rw [hdst] at hk2
              exact ⟨own2, st2, hrel, hk2, hkeep⟩
            | some d =>
              rw [hdst] at hk2
              have hdl := hd d hdst
              simp only [putRes] at hk2
              -- the result
              unfold ResR at hR
              split at hR
              · rename_i h0
                rw [h0] at hk2
                exact ⟨own2, _, hrel.put hn hdl (x := .dead) trivial, hk2, hkeep⟩
              · rename_i h0
                rw [h0] at hk2
                have hR2 : Res1 S w' (g.Z own2 w') own2 F.rt F.rm v res.1 := by
                  cases ha : F.apart with
                  | false => exact hR.frame (hZ2 ha) (fun b q hb => ownOut_lim hb)
                  | true =>
                    simp only [FSpec.apart, Bool.and_eq_true] at ha
                    exact res_apart ha.1.1 ha.1.2 hR
                obtain ⟨own3, h3⟩ := put_res hrel hn (hpin d hdl) hdl hR2
                exact ⟨own3, _, h3, hk2, hkeep⟩
              · rename_i n0 n1
                obtain ⟨vs, rfl, hT⟩ := hR
                have hT2 : TupR w' (g.Z own2 w') F.rt res.1 vs.toList := by
                  cases ha : F.apart with
                  | false => exact TupR_frame (hZ2 ha) (fun _ _ => rfl) _ _ _ hT
                  | true =>
                    simp only [FSpec.apart, Bool.and_eq_true] at ha
                    exact scalar_TupR _ _ _ ha.1.1 hT
                have hκ' : κ (st2.put hn d (.tup F.rt F.rm res.1)) = some r := by
                  match hnr : F.nres, n0, n1 with
                  | 0, n0, _ => exact absurd rfl n0
                  | 1, _, n1 => exact absurd rfl n1
                  | n + 2, _, _ => rw [hnr] at hk2; exact hk2
                exact ⟨own2, _, hrel.put hn hdl (x := .tup F.rt F.rm res.1) ⟨vs, rfl, hT2⟩, hκ', hkeep⟩
          · cases hk2

/-! ### Function literals called -/
theorem caps_ok {w : World} {Z : Nat → Prop} : ∀ (ps : List PK) (vs : List Value) (y : S.den (packTy (argT ps))), ps.all PK.isCap = true → S.R w Z (packTy (argT ps)) vs y → ValsR S w Z ps vs y
  | [], vs, y, _, h => by
    have := Cx.R_unit.1 h
    subst this; trivial
  | .val (.box t) :: ps, vs, y, hc, h => by
    simp only [List.all_cons, Bool.and_eq_true] at hc
    obtain ⟨c1, c2, rfl, h2, h3, h4⟩ := Cx.R_pair.1 h
    have h2 : c1.length = 1 := h2
    match c1, h2 with
    | [v], _ => exact ⟨⟨[v], rfl, h3⟩, caps_ok ps c2 y.2 hc.2 h4⟩
  | .io _ _ :: ps, vs, y, hc, h => by simp [PK.isCap] at hc
  | .val (.int _) :: ps, vs, y, hc, h => by simp [PK.isCap] at hc
  | .val .bool :: ps, vs, y, hc, h => by simp [PK.isCap] at hc
  | .val .str :: ps, vs, y, hc, h => by simp [PK.isCap] at hc
  | .val (.slice _ _) :: ps, vs, y, hc, h => by simp [PK.isCap] at hc
  | .val (.pair _ _) :: ps, vs, y, hc, h => by simp [PK.isCap] at hc
  | .val (.agg _) :: ps, vs, y, hc, h => by simp [PK.isCap] at hc
  | .val (.ptr _) :: ps, vs, y, hc, h => by simp [PK.isCap] at hc
  | .val (.named _) :: ps, vs, y, hc, h => by simp [PK.isCap] at hc
  | .val .unit :: ps, vs, y, hc, h => by simp [PK.isCap] at hc
  | .val (.arr _ _) :: ps, vs, y, hc, h => by simp [PK.isCap] at hc
  | .val (.clo _ _) :: ps, vs, y, hc, h => by simp [PK.isCap] at hc
theorem packC_ok (ok : S.Ok) {E : Env S} {fz : Bool} {u : Ty} {y : S.den u} {vs : List Value} : ∀ (ps : List PK) (xs : List Operand) (ts : List Nat) (own : Nat → Option Own) (st st' : ST S) (z : S.den (packTy (argT ps))), Rel g own st a w →
    S.R w (g.Z own w) u vs y → packC E fz u y ps xs ts st = some (z, st') → ∃ own', Rel g own' st' a w ∧ Lasts own own' ∧ ValsR S w (argZ g fz own' w) ps (xs.map a.eval ++ vs) z
  | ps, [], _, own, st, st', z, h, hy, hp => by
    have hp' : (match ps.all PK.isCap with
      | true => match S.cast u (packTy (argT ps)) y with
        | some z => some (z, st)
        | none => none
      | false => none) = some (z, st') := by
      rw [← hp]; cases ps <;> rfl
    clear hp
    split at hp'
    · rename_i hc
      split at hp'
      · rename_i z' hz
        cases hp'
        obtain ⟨ht, rfl⟩ := cast_some hz
        subst ht
        exact ⟨own, h, .refl, caps_ok ps vs _ hc (hy.frame (fun b hb => Z_argZ hb) (fun _ _ => rfl))⟩
      · cases hp'
    · cases hp'
  | p :: ps, x :: xs, ts, own, st, st', z, h, hy, hp => by
    simp only [packC] at hp
    split at hp
    · rename_i y1 st1 h1
      split at hp
      · rename_i y2 st2 h2
        cases hp
        obtain ⟨own1, k1, k2, k3⟩ := packOne_ok ok h h1
        obtain ⟨own2, j1, j2, j3⟩ := packC_ok ok ps xs ts.tail own1 st1 _ y2 k1 (hy.frame (fun b hb => k2.Z hb) (fun _ _ => rfl)) h2
        exact ⟨own2, j1, k2.trans j2, ValsR.one_mono (fun b hb => argZ_mono j2 hb) k3, j3⟩
      · cases hp
    · cases hp
  | [], _ :: _, _, _, _, _, _, _, _, hp => by simp [packC] at hp
theorem vals_args {w : World} {Z : Nat → Prop} {own : Nat → Option Own} : ∀ (ps : List PK) (i : Nat) (vs : List Value) (y : S.den (packTy (argT ps))), ps.any PK.isIo = false → ValsR S w Z ps vs y → ArgsR S w Z own i ps vs y
  | [], _, [], _, _, _ => trivial
  | .val t :: ps, i, v :: vs, y, hio, h => ⟨h.1, vals_args ps (i + 1) vs y.2 (by simp only [List.any_cons, Bool.or_eq_false_iff] at hio; exact hio.2) h.2⟩
  | .io _ _ :: ps, i, v :: vs, y, hio, h => by simp [PK.isIo] at hio
  | [], _, _ :: _, _, _, h => h.elim
  | .val _ :: _, _, [], _, _, h => h.elim
  | .io _ _ :: _, _, [], _, _, h => h.elim
theorem resolve_clo {P : Program} {o : Oper} {c : Call} {s f : Nat} {vs : List Value} (ho : o.op = .call c) (hc : c.callee = .value (.tmp s)) (hs : a.tmps.getD s undef = .func (.func f) #[] vs.toArray) :
    execOp a.eval o = callFunc f (c.args.map a.eval ++ vs.toArray) := by
  have e : a.eval (.tmp s) = .func (.func f) #[] vs.toArray := hs
  simp only [execOp, ho, resolve, hc, e, Deferred.ofValue, pure_bind, invoke]
  simp
theorem do_entersC {o : Oper} {f : Nat} {args : Array Value} {κ : ST S → Option α} {r : α} {keep : Bool} (hx : execOp a.eval o = callFunc f args)
    (h : Enters g.P f args w fun v w' => ∃ own' st', Rel g own' st' (a.put o.dst v) w' ∧ κ st' = some r ∧ (keep = true → Below w.heap.size w w')) : Do g keep o a w κ r := by
  intro Q
  unfold Oper.wp
  rw [hx]
  unfold Enters at h
  split at h
  · rename_i v w' e
    rw [e]
    obtain ⟨own', st', h1, h2, h3⟩ := h
    exact ⟨own', st', h1, h2, tmps_put_size, h3⟩
  · rename_i f' args' w' e
    rw [e]
    refine Calls.mono h fun e w'' he => ?_
    obtain ⟨v, rfl, own', st', h1, h2, h3⟩ := he
    exact ⟨own', st', h1, h2, tmps_put_size, h3⟩
  · exact h.elim
theorem do_callC {o : Oper} {c : Call} {s : Nat} {hn : Hint} {κ : ST S → Option α} {r : α} (ok : S.Ok) (hfs : ∀ f F, g.E.fs f = some F → FnOk g.P F f) (hpin : ∀ d, d < a.tmps.size → g.pin d = none) (h : Rel g own st a w) (hd : ∀ d, o.dst = some d → d < a.tmps.size)
    (ho : o.op = .call c) (hc : c.callee = .value (.tmp s)) (hκ : opK g.E hn o st κ = some r) : Do g true o a w κ r := by
  simp only [opK, ho, hc] at hκ
  split at hκ
  · rename_i f u m y hs
    split at hκ
    · have hvs := h.vals s
      rw [hs] at hvs
      obtain ⟨cs0, hVS0, hR0⟩ := TR_ro.1 hvs
      obtain ⟨vs, hcs, hRu⟩ := Cx.R_clo.1 hR0
      have hval : a.tmps.getD s undef = .func (.func f) #[] vs.toArray := by
        have e : cs0 = [a.tmps.getD s undef] := hVS0
        rw [e] at hcs
        exact (List.cons.inj hcs).1
      unfold callC at hκ
      split at hκ
      · cases hκ
      · rename_i F hF
        split at hκ
        · cases hκ
        rename_i hFo
        have hok := (hfs f F hF).zero hFo
        split at hκ
        · cases hκ
        · rename_i hio
          split at hκ
          · cases hκ
          · rename_i x st1 hpack
            obtain ⟨res, hf, hk2⟩ := bindR_some hκ
            obtain ⟨own1, h1, hL, hV⟩ := packC_ok ok F.ps c.args.toList c.argTypes.toList own st st1 x h hRu hpack
            generalize hZd : argZ g (!F.apart) own1 w = Z at *
            have hArgs : ArgsR S w Z (fun _ => none) ioBase F.ps (c.args.toList.map a.eval ++ vs) x := vals_args F.ps ioBase _ x hio hV
            have hent := hok w Z (fun _ => none) _ x res (fun b hb => by
                rw [← hZd] at hb
                cases hna : F.apart
                · rw [hna] at hb
                  have hb : g.Z own1 w b := hb
                  exact ⟨hb.2.1, rfl⟩
                · rw [hna] at hb
                  have hb : g.A w b := hb
                  exact ⟨hb.2, rfl⟩) (fun b hb => absurd rfl hb) hArgs (h1.glob.frame (fun b hb => by rw [← hZd]; exact Z_argZ hb) (fun _ _ => rfl)) hf
            have hxa : (c.args.toList.map a.eval ++ vs).toArray = c.args.map a.eval ++ vs.toArray := by apply Array.ext'; simp
            rw [hxa] at hent
            refine do_entersC (resolve_clo (P := g.P) ho hc hval) (Enters.mono hent fun v w' hres => ?_)
            obtain ⟨ownC', hleft, hR, _⟩ := hres
            have hlt1 : ∀ b, own1 b ≠ none → b < w.heap.size := fun b hb => (h1.fresh b hb).2
            have cNone : ∀ b, b < w.heap.size → ownC' b = none := fun b hb => by
              cases e : ownC' b with
              | none => rfl
              | some _ =>
                rcases (hleft.own b (by rw [e]; simp)).2 with h' | h'
                · omega
                · exact absurd rfl h'
            let own2 := ownOut [] own1 ownC'
            have hown2 : ∀ b, ownC' b = none → own2 b = own1 b := fun b hb => by
              show ownOut [] own1 ownC' b = own1 b
              rw [ownOut_none hb]
              have : ownIn [] own1 b = none := by
                cases e : ownIn [] own1 b with
                | none => rfl
                | some rl =>
                  obtain ⟨k, i, _, e2, _⟩ := ownIn_inv (r := rl.1) (l := rl.2) e
                  cases e2
              rw [if_pos this]
            have hZ2 : F.apart = false → ∀ b, zoneOf Z (fun _ => none) ownC' w w' b → g.Z own2 w' b := fun hna b hb => by
              obtain ⟨hb1, hb2, hb3⟩ := hb
              have e2 := hown2 b hb3
              rcases hb1 with hb1 | hb1 | hb1
              · have : g.Z own1 w b := by
                  rw [← hZd, hna] at hb1; exact hb1
                exact ⟨this.1, hb2, by rw [e2]; exact this.2.2⟩
              · have hn1 : own1 b = none := by
                  cases e : own1 b with
                  | none => rfl
                  | some _ => have := hlt1 b (by rw [e]; simp); omega
                exact ⟨.inr (.inl (Nat.le_trans h1.size hb1)), hb2, by rw [e2]; exact hn1⟩
              · exact absurd rfl hb1
            have hkeep : Below w.heap.size w w' := ⟨hleft.os, hleft.tape, hleft.output, hleft.size, fun b hb => hleft.block b hb rfl⟩
            have hrel : Rel g own2 st1 a w' := by
              refine h1.call ok (ks := []) ⟨fun i => .inr ⟨rfl, fun e => absurd rfl e, fun k hk => by cases hk⟩, fun r _ => rfl⟩ hleft.os hleft.tape hleft.output hleft.size (fun b hb _ => ⟨hleft.block b hb rfl, hown2 b (cNone b hb)⟩) (fun b hb => ?_) (fun k b _ hb => ?_) (fun k c' hk => by cases hk) (fun k hk => by cases hk)
              · by_cases hcb : ownC' b = none
                · have : own1 b ≠ none := fun e => by rw [hown2 b hcb] at hb; exact hb e
                  exact Nat.lt_of_lt_of_le (hlt1 b this) hleft.size
                · exact (hleft.own b hcb).1
              · rcases ownOut_inv hb with ⟨i, _, hp⟩ | ⟨_, _, e⟩
                · cases hp
                · exact ⟨hlt1 b (by rw [e]; simp), fun k l hk => by cases hk⟩
            cases hdst : o.dst with
            | none =>
              rw [hdst] at hk2
              exact ⟨own2, st1, hrel, hk2, fun _ => hkeep⟩
            | some d =>
              rw [hdst] at hk2
              have hdl := hd d hdst
              simp only [putRes] at hk2
              unfold ResR at hR
              split at hR
              · rename_i h0
                rw [h0] at hk2
                exact ⟨own2, _, hrel.put hn hdl (x := .dead) trivial, hk2, fun _ => hkeep⟩
              · rename_i h0
                rw [h0] at hk2
                have hR2 : Res1 S w' (g.Z own2 w') own2 F.rt F.rm v res.1 := by
                  cases ha : F.apart with
                  | false => exact hR.frame (hZ2 ha) (fun b q hb => ownOut_lim hb)
                  | true =>
                    simp only [FSpec.apart, Bool.and_eq_true] at ha
                    exact res_apart ha.1.1 ha.1.2 hR
                obtain ⟨own3, h3⟩ := put_res hrel hn (hpin d hdl) hdl hR2
                exact ⟨own3, _, h3, hk2, fun _ => hkeep⟩
              · rename_i n0 n1
                obtain ⟨vs', rfl, hT⟩ := hR
                have hT2 : TupR w' (g.Z own2 w') F.rt res.1 vs'.toList := by
                  cases ha : F.apart with
                  | false => exact TupR_frame (hZ2 ha) (fun _ _ => rfl) _ _ _ hT
                  | true =>
                    simp only [FSpec.apart, Bool.and_eq_true] at ha
                    exact scalar_TupR _ _ _ ha.1.1 hT
                have hκ' : κ (st1.put hn d (.tup F.rt F.rm res.1)) = some r := by
                  match hnr : F.nres, n0, n1 with
                  | 0, n0, _ => exact absurd rfl n0
                  | 1, _, n1 => exact absurd rfl n1
                  | n + 2, _, _ => rw [hnr] at hk2; exact hk2
                exact ⟨own2, _, hrel.put hn hdl (x := .tup F.rt F.rm res.1) ⟨vs', rfl, hT2⟩, hκ', fun _ => hkeep⟩
    · cases hκ
  · cases hκ
end
end Go.Proofs.YtpmlimdilajidaaDoor.Vm
namespace Go.Proofs.YtpmlimdilajidaaDoor.Vm
open Go Go.RowKit
set_option linter.unusedVariables false

section
variable {S : Cx} {α : Type} {g : Gl S} {own : Nat → Option Own} {st : ST S} {a : Act} {w : World}

/-- A row that is in nobody's hands is written: all that leads through no row lasts. -/
theorem Rel.limW (h : Rel g own st a w) {b off : Nat} {new : List Value} {q : Option Path} (hb : own b = some (.lim, q)) :
    Rel g own (st.killBy AVal.deep) a (putCells w b off new) := by
  have hbZ : ∀ b', g.Z own w b' → b' ≠ b := fun b' hz e => by rw [e] at hz; rw [hz.2.2] at hb; cases hb
  have hZe : g.Z own (putCells w b off new) = g.Z own w := by funext b'; simp only [Gl.Z, putCells_size]
  have hZw : ∀ b', g.Z own w b' → (putCells w b off new).heap[b']? = w.heap[b']? := fun b' hz => putCells_ne (hbZ b' hz)
  have hne : ∀ b' r q', own b' = some (r, q') → r ≠ .lim → (putCells w b off new).heap[b']? = w.heap[b']? := fun b' r q' hb' hr => putCells_ne (fun e => by
    subst e; rw [hb] at hb'; exact hr (Prod.mk.inj (Option.some.inj hb')).1.symm)
  have hroot : ∀ r', (st.killBy AVal.deep).root r' = st.root r' := fun r' => root_killBy st _ (fun _ _ _ => rfl) rfl r'
  have hRoot : ∀ r' t l cs', RootAt own a w r' t l cs' → RootAt own a (putCells w b off new) r' t l cs' := fun r' t l cs' hR => by
    cases r' with
    | slot s => exact hR
    | lim => exact hR
    | mem k =>
      obtain ⟨b', e', cl, f1, f2, f3, f4⟩ := hR
      exact ⟨b', e', cl, f1, f2, by rw [hne b' _ _ f2 (by simp)]; exact f3, f4⟩
  refine ⟨h.os, h.tape, h.output, by rw [putCells_size]; exact h.size, fun b' hb' hio => ?_, fun b' hb' => by rw [putCells_size]; exact h.fresh b' hb', fun i => ?_, fun k c hk => ?_, h.defs, h.pins⟩
  · rw [putCells_ne]
    · exact h.block b' hb' hio
    · intro e
      subst e
      rcases (h.fresh b' (by rw [hb]; simp)).1 with hf | hf
      · omega
      · exact hio hf
  · rw [look_killBy _ _ _ rfl]
    have hv := h.vals i
    cases hd : (st.look i).deep
    · simp only
      generalize st.look i = A at *
      cases A with
      | dead => trivial
      | und => exact hv
      | v t' m'' y =>
        obtain ⟨cs', e1, e2⟩ := hv
        refine ⟨cs', e1, ?_⟩
        rw [hZe]
        exact OW_frame (fun _ h => h) hZw _ _ _ _ _ _ (fun b' q' hb' => ⟨hb', hne b' _ _ hb' (by simp)⟩) e2
      | tup t' m'' y =>
        obtain ⟨vs, e1, e2⟩ := hv
        exact ⟨vs, e1, by rw [hZe]; exact TupR_frame (fun _ h => h) hZw _ _ _ e2⟩
      | rp t' y =>
        obtain ⟨b', off', cs', e1, e2, e3, e4⟩ := hv
        exact ⟨b', off', cs', e1, by rw [hZe]; exact e2, by rw [cellsAt_same (hZw b' e2)]; exact e3, by rw [hZe]; exact e4.frame (fun _ h => h) hZw⟩
      | ref r' p' =>
        obtain ⟨l1, cs1, c1, e1, e2⟩ := hv
        exact ⟨l1, cs1, c1, Place_world e1 (by simpa [AVal.deep] using hd) (hroot r') (hRoot r'), e2⟩
      | addr r' p' =>
        obtain ⟨b', off', cs1, c1, e1, e2⟩ := hv
        exact ⟨b', off', cs1, c1, Place_world e1 (by simpa [AVal.deep] using hd) (hroot r') (hRoot r'), e2⟩
    · trivial
  · obtain ⟨b', e, cells, g1, g2, g3, g4⟩ := h.mems k c hk
    unfold MR
    rw [hZe]
    exact ⟨b', e, cells, g1, by rw [hne b' _ _ g1 (by simp)]; exact g2, OW_frame (fun _ h => h) hZw _ _ _ _ _ _ (fun b'' q' hb' => ⟨hb', hne b'' _ _ hb' (by simp)⟩) g3, g4⟩

/-- Less is known: what leads through rows. -/
theorem Rel.killDeep (h : Rel g own st a w) : Rel g own (st.killBy AVal.deep) a w := by
  have hroot : ∀ r', (st.killBy AVal.deep).root r' = st.root r' := fun r' => root_killBy st _ (fun _ _ _ => rfl) rfl r'
  refine ⟨h.os, h.tape, h.output, h.size, h.block, h.fresh, fun i => ?_, fun k c hk => h.mems k c hk, h.defs, h.pins⟩
  rw [look_killBy _ _ _ rfl]
  have hv := h.vals i
  cases hd : (st.look i).deep
  · simp only
    generalize st.look i = A at *
    cases A with
    | ref r' p' =>
      obtain ⟨l1, cs1, c1, e1, e2⟩ := hv
      exact ⟨l1, cs1, c1, Place_world e1 (by simpa [AVal.deep] using hd) (hroot r') (fun _ _ _ h => h), e2⟩
    | addr r' p' =>
      obtain ⟨b', off', cs1, c1, e1, e2⟩ := hv
      exact ⟨b', off', cs1, c1, Place_world e1 (by simpa [AVal.deep] using hd) (hroot r') (fun _ _ _ h => h), e2⟩
    | _ => exact hv
  · trivial

/-! ### Rows of readings -/
/-- The cells of a slice's elements, one behind the other. -/
theorem slice_cells {Z : Nat → Prop} {t : Ty} (hpos : 0 < S.size t) {l : List (S.den t)} {ad : Option Addr} (hel : ∀ i y, nth l i = some y → ∃ b off cs', ad = some ⟨b, off, none⟩ ∧ Z b ∧ cellsAt w b (off + i * S.size t) (S.size t) = some cs' ∧ S.R w Z t cs' y)
    (h0 : 0 < l.length) : ∃ (b off : Nat) (news : List Value), ad = some ⟨b, off, none⟩ ∧ news.length = l.length * S.size t ∧ (∀ (j : Nat) u, news[j]? = some u → w.cell? ((⟨b, off, none⟩ : Addr).add j) = some u) ∧
      (∀ i y, nth l i = some y → S.R w Z t ((news.drop (i * S.size t)).take (S.size t)) y) ∧ (∀ u ∈ news, u.oneCell' = true) := by
  obtain ⟨b, off, cs0, rfl, hZb, _, _⟩ := hel 0 l[0] (by simp [nth, h0])
  have hel' : ∀ i y, nth l i = some y → ∃ cs', cellsAt w b (off + i * S.size t) (S.size t) = some cs' ∧ S.R w Z t cs' y := fun i y hy => by
    obtain ⟨b', off', cs', e1, _, e2, e3⟩ := hel i y hy
    cases e1; exact ⟨cs', e2, e3⟩
  obtain ⟨csl, hl1, _⟩ := hel' (l.length - 1) l[l.length - 1] (by simp [nth])
  have hmul : (l.length - 1) * S.size t + S.size t = l.length * S.size t := by
    have : l.length = (l.length - 1) + 1 := by omega
    conv => rhs; rw [this, Nat.succ_mul]
  unfold cellsAt at hl1
  cases hb : w.heap[b]? with
  | none => rw [hb] at hl1; cases hl1
  | some o =>
    cases o with
    | cells c e f =>
      rw [hb] at hl1
      simp only at hl1
      split at hl1
      · rename_i hfit
        have hsz : off + l.length * S.size t ≤ c.size := by omega
        have hpiece : ∀ i, i < l.length → (((c.toList.drop off).take (l.length * S.size t)).drop (i * S.size t)).take (S.size t) = (c.toList.drop (off + i * S.size t)).take (S.size t) := fun i hi => by
          have hi2 : i * S.size t + S.size t ≤ l.length * S.size t := by
            rw [← Nat.succ_mul]; exact Nat.mul_le_mul_right _ hi
          rw [List.drop_take, List.drop_drop, List.take_take, Nat.min_eq_left (by omega)]
        have hRi : ∀ i y, nth l i = some y → S.R w Z t ((((c.toList.drop off).take (l.length * S.size t)).drop (i * S.size t)).take (S.size t)) y := fun i y hy => by
          obtain ⟨cs', e1, e2⟩ := hel' i y hy
          rw [hpiece i (nth_lt hy)]
          unfold cellsAt at e1
          rw [hb] at e1
          simp only at e1
          split at e1
          · cases e1; exact e2
          · cases e1
        refine ⟨b, off, (c.toList.drop off).take (l.length * S.size t), rfl, ?_, fun j u hu => ?_, hRi, fun u hu => ?_⟩
        · have : c.toList.length = c.size := Array.length_toList
          rw [List.length_take, List.length_drop, this]; exact Nat.min_eq_left (by omega)
        · rw [add_off, cell_of_row w b _ c e f hb]
          rw [List.getElem?_take] at hu
          split at hu
          · rw [List.getElem?_drop] at hu; simpa using hu
          · cases hu
        · obtain ⟨j, hj⟩ := List.getElem?_of_mem hu
          have hjl : j < l.length * S.size t := by
            have := (List.getElem?_eq_some_iff.1 hj).1
            rw [List.length_take] at this; omega
          have hdm := Nat.div_add_mod j (S.size t)
          have hml := Nat.mod_lt j hpos
          have hdl : j / S.size t < l.length := Nat.div_lt_of_lt_mul (by rw [Nat.mul_comm]; exact hjl)
          refine (hRi (j / S.size t) l[j / S.size t] (by simp [nth, hdl])).one u ?_
          refine List.mem_of_getElem? (i := j % S.size t) ?_
          rw [List.getElem?_take, if_pos hml, List.getElem?_drop, show j / S.size t * S.size t + j % S.size t = j by rw [Nat.mul_comm]; exact hdm]
          exact hj
      · cases hl1
    | _ => rw [hb] at hl1; cases hl1

theorem piece_left {xs ys : List Value} {i s : Nat} (h : i * s + s ≤ xs.length) : ((xs ++ ys).drop (i * s)).take s = (xs.drop (i * s)).take s := by
  rw [List.drop_append_of_le_length (by omega), List.take_append_of_le_length (by rw [List.length_drop]; omega)]
theorem piece_right {xs ys : List Value} {n i s : Nat} (hx : xs.length = n * s) (h : n ≤ i) : ((xs ++ ys).drop (i * s)).take s = (ys.drop ((i - n) * s)).take s := by
  have : i * s = xs.length + (i - n) * s := by rw [hx, ← Nat.add_mul]; congr 1; omega
  rw [this, List.drop_append, List.drop_of_length_le (by omega), List.nil_append, Nat.add_sub_cancel_left]

theorem run_append_zero {P : Program} (w : World) (t ty e : TypeId) (i : TypeInfo) (ht : P.underlying t = some (.slice e)) (hi : P.info? e = some i) (b ad : Option Addr) (n cap c : Nat) (hc : n ≤ cap) :
    (Builtin.append_ #[t, t] ty #[.slice b n cap, .slice ad 0 c]).run P w = .ok (.slice b n cap) w := by
  have hf : ∀ ad : Option Addr, (Builtin.firstCells i.size 0 (.slice ad 0 c)).run P w = .ok #[] w := fun ad => by
    cases ad with
    | none => simp [Builtin.firstCells]
    | some x => simp [Builtin.firstCells, loadCells, loadCellsFrom]
  cases b with
  | none => simp [Builtin.append_, run_underlying ht, sizeOf, typeInfo, hi, Builtin.lenOf, hc, hf]
  | some x => simp [Builtin.append_, run_underlying ht, sizeOf, typeInfo, hi, Builtin.lenOf, hc, hf, storeCells]

/-- What is appended to: nothing, or a row in nobody's hands. -/
theorem appTake_ok (ok : S.Ok) {E : Env S} (h : Rel g own st a w) {x : Operand} {t ee : Nat} {u : Ty} {l : List (S.den u)} {st' : ST S} (hx : appTake E st x t ee u = some (l, st')) (p0 : Path := []) :
    ∃ own', Rel g own' st' a w ∧ Lasts own own' ∧ ((a.eval x = .slice none 0 0 ∧ l = []) ∨ ∃ b c cells, a.eval x = .slice (some ⟨b, 0, none⟩) l.length c ∧ own' b = some (.lim, some p0) ∧
      w.heap[b]? = some (.cells cells ee (0, 0)) ∧ l.length ≤ c ∧ c ≤ maxLen ∧ cells.size = c * S.size u ∧ ∀ i y, nth l i = some y → S.R w (g.Z own' w) u ((cells.toList.drop (i * S.size u)).take (S.size u)) y) := by
  have gen : ∀ (e3 : Nat) (t3 : Ty) (y : List (S.den t3)) (m : Mode), st.take E x t = some (⟨.slice e3 t3, m, y⟩, st') → m = .own .ro → S.cast (.slice e3 t3) (.slice ee u) y = some l →
      ∃ own', Rel g own' st' a w ∧ Lasts own own' ∧ ((a.eval x = .slice none 0 0 ∧ l = []) ∨ ∃ b c cells, a.eval x = .slice (some ⟨b, 0, none⟩) l.length c ∧ own' b = some (.lim, some p0) ∧
      w.heap[b]? = some (.cells cells ee (0, 0)) ∧ l.length ≤ c ∧ c ≤ maxLen ∧ cells.size = c * S.size u ∧ ∀ i y, nth l i = some y → S.R w (g.Z own' w) u ((cells.toList.drop (i * S.size u)).take (S.size u)) y) := by
    intro e3 t3 y m htk hm hcast
    obtain ⟨he, rfl⟩ := cast_some hcast
    cases he
    subst hm
    obtain ⟨own', cs, h1, hVS, hO, hL, _⟩ := take_ok ok E h htk p0
    refine ⟨own', h1, hL, ?_⟩
    have hv : cs = [a.eval x] := hVS
    rcases hO with ⟨e1, e2⟩ | ⟨b, c, cells, e1, e2, e3, e4, e5, e6, e7⟩
    · rw [hv] at e1
      exact .inl ⟨(List.cons.inj e1).1, e2⟩
    · rw [hv] at e1
      exact .inr ⟨b, c, cells, (List.cons.inj e1).1, e2, e3, e4, e5, e6, fun i y hy => OW_ro.1 (e7 i y hy)⟩
  unfold appTake at hx
  split at hx
  · rename_i v
    split at hx
    · rename_i l' hl
      cases hx
      obtain ⟨e1, e2⟩ := lit_slice hl
      exact ⟨own, h, .refl, .inl ⟨by rw [← e1]; rfl, e2⟩⟩
    · cases hx
  · split at hx
    · rename_i e3 t3 m y st1 htk
      split at hx
      · rename_i m'
        split at hx
        · split at hx
          · rename_i l' hcast
            cases hx
            exact gen e3 t3 y _ htk rfl hcast
          · cases hx
        · cases hx
      · cases hx
    · cases hx

theorem appArg_ok (ok : S.Ok) {E : Env S} (h : Rel g own st a w) {x : Operand} {t ee : Nat} {u : Ty} {l : List (S.den u)} {st' : ST S} (hx : appArg E st x t ee u = some (l, st')) :
    ∃ own', Rel g own' st' a w ∧ Lasts own own' ∧ ∃ ad c Z, a.eval x = .slice ad l.length c ∧ (u.scalar = true ∨ Z = g.Z own' w) ∧
      (∀ i y, nth l i = some y → ∃ b off cs', ad = some ⟨b, off, none⟩ ∧ Z b ∧ cellsAt w b (off + i * S.size u) (S.size u) = some cs' ∧ S.R w Z u cs' y) := by
  unfold appArg at hx
  split at hx
  · rename_i hsc
    split at hx
    · rename_i e2 t2 m y hv
      split at hx
      · rename_i l' hcast
        cases hx
        obtain ⟨he, rfl⟩ := cast_some hcast
        cases he
        obtain ⟨cs, hVS, hR⟩ := val_ok ok E h hv
        obtain ⟨ad, c, rfl, hc, hel⟩ := Cx.R_slice.1 hR
        exact ⟨own, h, .refl, ad, c, g.A w, (List.cons.inj hVS).1.symm, .inl hsc, hel⟩
      · cases hx
    · cases hx
  · split at hx
    · rename_i e2 t2 m y st1 hv
      split at hx
      · rename_i l' hcast
        cases hx
        obtain ⟨he, rfl⟩ := cast_some hcast
        cases he
        obtain ⟨own', cs, h1, hVS, _, hR, hL⟩ := frz_ok ok E h hv
        obtain ⟨ad, c, rfl, hc, hel⟩ := Cx.R_slice.1 hR
        exact ⟨own', h1, hL, ad, c, g.Z own' w, (List.cons.inj hVS).1.symm, .inr rfl, hel⟩
      · cases hx
    · cases hx

theorem do_append {o : Oper} {c : Call} {hn : Hint} {κ : ST S → Option α} {r : α} (ok : S.Ok) (T : TysOk g.P g.E) (h : Rel g own st a w) (hd : ∀ d, o.dst = some d → d < a.tmps.size)
    (ho : o.op = .call c) (hc : c.callee = .builtin .append) (hκ : opK g.E hn o st κ = some r) : Do g false o a w κ r := by
  simp only [opK, ho, hc] at hκ
  split at hκ
  · rename_i x y t t' ex et
    have ha : c.args = #[x, y] := by rw [← Array.toList_inj]; exact ex
    have hta : c.argTypes = #[t, t'] := by rw [← Array.toList_inj]; exact et
    split at hκ
    · rename_i htt
      have htt : t = t' := by simpa using htt
      subst htt
      split at hκ
      · rename_i ee u e1
        have hm : u.isMap = false := by
          cases hm : u.isMap with
          | false => rfl
          | true => simp only [hm] at hκ; cases hκ
        simp only [hm] at hκ
        split at hκ
        · rename_i l2 st1 e2
          split at hκ
          · rename_i l1 st2 e3
            obtain ⟨hroom, hκ⟩ := must_some hκ
            have hroom : (l1.length + l2.length) * 4096 ≤ 140737488355328 := of_decide_eq_true hroom
            obtain ⟨own1, h1, hL1, ad, cy, Zy, hvy, hZy, hely⟩ := appArg_ok ok h e2
            obtain ⟨own2, h2, hL2, hxx⟩ := appTake_ok ok h1 e3
            have tf := T _ _ e1
            obtain ⟨hu, he, hpos⟩ := tf.und
            have tfe := T _ _ he
            obtain ⟨ie, ze, hie, hie2, hze, hVz, hby⟩ := tfe.info
            have hexec : ∀ {v : Value} {w' : World}, (Builtin.append_ #[t, t] o.type #[a.eval x, a.eval y]).run g.P w = .ok v w' → (execOp a.eval o).run g.P w = .ok (.value v) w' := fun hr => by
              simp only [execOp, ho, resolve, hc, ha, hta, pure_bind, Sem.run_bind, invoke, builtin, List.map_toArray, List.map_cons, List.map_nil, hr, Result.andThen_ok]; rfl
            have fin : ∀ {own3 : Nat → Option Own} {v : Value} {w' : World}, Rel g own3 (st2.killBy AVal.deep) a w' → (Builtin.append_ #[t, t] o.type #[a.eval x, a.eval y]).run g.P w = .ok v w' →
                S.OW w' own3 (g.Z own3 w') .lim (.slice ee u) (.own .ro) [] [v] (List.append l1 l2) → Do g false o a w κ r := fun {own3 v w'} h3 hrun hO => by
              cases hdst : o.dst with
              | none =>
                rw [hdst] at hκ
                exact do_run (hexec hrun) (by rw [hdst]; exact h3) hκ (fun h => by cases h)
              | some d =>
                rw [hdst] at hκ
                obtain ⟨own4, h4⟩ := put_lim h3 hn (hd d hdst) (c := ⟨.slice ee u, .own .ro, List.append l1 l2⟩) (v := v) rfl hO
                exact do_run (hexec hrun) (by rw [hdst]; exact h4) hκ (fun h => by cases h)
            have hzs : ze.cells.size = S.size u := by
              have hz1 : ze.cells = (zc u).toArray := VS_list hVz ((R_zc (S := S) (w := w) (Z := fun _ => False) u (tfe.named hm)).one)
              rw [hz1, List.size_toArray]
              exact (R_zc (S := S) (w := w) (Z := fun _ => False) u (tfe.named hm)).len ok
            have happ : List.append l1 l2 = l1 ++ l2 := rfl
            by_cases hm : l2.length = 0
            · -- nothing is appended
              have hl2 : l2 = [] := List.eq_nil_of_length_eq_zero hm
              subst hl2
              simp only [List.length_nil] at hvy
              rcases hxx with ⟨hvx, rfl⟩ | ⟨b, cx', cells, hvx, k2, k3, k4, k5, k6, k7⟩
              · exact fin h2.killDeep (by rw [hvx, hvy]; exact run_append_zero w t o.type ee ie hu hie none ad 0 0 cy (Nat.le_refl _)) (.inl ⟨rfl, rfl⟩)
              · refine fin h2.killDeep (by rw [hvx, hvy]; exact run_append_zero w t o.type ee ie hu hie _ ad _ _ cy k4) ?_
                rw [happ, List.append_nil]
                exact .inr ⟨b, cx', cells, rfl, k2, k3, k4, k5, k6, fun i y hy => OW_ro.2 (k7 i y hy)⟩
            · obtain ⟨by_, oy, news, rfl, hnl, hcell, hRn, hone⟩ := slice_cells hpos hely (by omega)
              have hRZ : ∀ {own3 : Nat → Option Own} {w' : World}, (∀ b, g.Z own2 w b → g.Z own3 w' b) → (∀ b, g.Z own2 w b → w'.heap[b]? = w.heap[b]?) → ∀ i z, nth l2 i = some z →
                  S.R w' (g.Z own3 w') u ((news.drop (i * S.size u)).take (S.size u)) z := fun hZ hw i z hz => by
                rcases hZy with hsc | rfl
                · exact scalar_R _ _ _ hsc (hRn i z hz)
                · exact (hRn i z hz).frame (fun b hb => hZ b (hL2.Z hb)) (fun b hb => hw b (hL2.Z hb))
              have hcat : ∀ (xs : List Value) (P' : List Value → S.den u → Prop), xs.length = l1.length * S.size u → (∀ i z, nth l1 i = some z → P' ((xs.drop (i * S.size u)).take (S.size u)) z) →
                  (∀ i z, nth l2 i = some z → P' ((news.drop (i * S.size u)).take (S.size u)) z) → ∀ (rest : List Value) i z, nth (l1 ++ l2) i = some z → P' (((xs ++ (news ++ rest)).drop (i * S.size u)).take (S.size u)) z := by
                intro xs P' hxl hp1 hp2 rest i z hz
                rcases Nat.lt_or_ge i l1.length with hi | hi
                · rw [piece_left (by rw [hxl, ← Nat.succ_mul]; exact Nat.mul_le_mul_right _ hi)]
                  exact hp1 i z (by simpa [nth, List.getElem?_append_left hi] using hz)
                · have hz2 : nth l2 (i - l1.length) = some z := by simpa [nth, List.getElem?_append_right hi] using hz
                  have := nth_lt hz2
                  rw [piece_right hxl hi, piece_left (by rw [hnl, ← Nat.succ_mul]; exact Nat.mul_le_mul_right _ this)]
                  exact hp2 _ z hz2
              have hlen63 : l1.length + l2.length ≤ maxLen := by simp only [maxLen]; omega
              -- a new row
              have grow : ∀ (old : Nat) (xs : List Value), old < l1.length + l2.length → xs.length = l1.length * S.size u → (∀ i z, nth l1 i = some z → S.R w (g.Z own2 w) u ((xs.drop (i * S.size u)).take (S.size u)) z) →
                  (Builtin.append_ #[t, t] o.type #[a.eval x, a.eval y]).run g.P w = .ok (.slice (some ⟨w.heap.size, 0, none⟩) (l1.length + l2.length) (grownCap w (l1.length + l2.length) old ee))
                    (w.drew.alloc (.cells (xs.toArray ++ news.toArray ++ Builtin.zeroCells ze.cells (grownCap w (l1.length + l2.length) old ee - (l1.length + l2.length))) ee)) → Do g false o a w κ r := by
                intro old xs hold hxl hxR hrun
                have hge := grownCap_ge w (l1.length + l2.length) old ee
                have hle := grownCap_le_maxLen w (l1.length + l2.length) old ee hlen63
                have hdrew : Below w.heap.size w w.drew := (Below.refl _ w).drew
                obtain ⟨own3, hlab, hrel, hZ3, hsome⟩ := ((h2.killDeep).keep hdrew).newRow (.cells (xs.toArray ++ news.toArray ++ Builtin.zeroCells ze.cells (grownCap w (l1.length + l2.length) old ee - (l1.length + l2.length))) ee) (some [])
                have hbel : Below w.heap.size w (w.drew.alloc (.cells (xs.toArray ++ news.toArray ++ Builtin.zeroCells ze.cells (grownCap w (l1.length + l2.length) old ee - (l1.length + l2.length))) ee)) :=
                  hdrew.trans ((Below.refl _ w.drew).alloc (Nat.le_refl _) _)
                have hZ4 : ∀ b, g.Z own2 w b → g.Z own3 (w.drew.alloc (.cells (xs.toArray ++ news.toArray ++ Builtin.zeroCells ze.cells (grownCap w (l1.length + l2.length) old ee - (l1.length + l2.length))) ee)) b := fun b hb => hZ3 b (Z_keep (Nat.le_refl _) hb)
                have hw4 : ∀ b, g.Z own2 w b → (w.drew.alloc (.cells (xs.toArray ++ news.toArray ++ Builtin.zeroCells ze.cells (grownCap w (l1.length + l2.length) old ee - (l1.length + l2.length))) ee)).heap[b]? = w.heap[b]? := fun b hb => hbel.block b hb.2.1
                refine fin hrel hrun (.inr ⟨w.heap.size, grownCap w (l1.length + l2.length) old ee, _, ?_, hlab, alloc_at, ?_, hle, ?_, ?_⟩)
                · rw [happ, List.length_append]
                · rw [happ, List.length_append]; exact hge
                · rw [Array.size_append, Array.size_append, List.size_toArray, List.size_toArray, hxl, hnl, size_zeroCells, hzs, ← Nat.add_mul, ← Nat.add_mul]
                  congr 1; omega
                · intro i z hz
                  have : (xs.toArray ++ news.toArray ++ Builtin.zeroCells ze.cells (grownCap w (l1.length + l2.length) old ee - (l1.length + l2.length))).toList = xs ++ (news ++ (Builtin.zeroCells ze.cells (grownCap w (l1.length + l2.length) old ee - (l1.length + l2.length))).toList) := by
                    simp only [Array.toList_append, List.append_assoc]
                  rw [this]
                  exact OW_ro.2 (hcat xs (fun cs z => S.R _ (g.Z own3 _) u cs z) hxl (fun i z hz => (hxR i z hz).frame hZ4 hw4) (hRZ hZ4 hw4) _ i z hz)
              have hb48 : (l1.length + l2.length) * ie.bytes ≤ 140737488355328 := Nat.le_trans (Nat.mul_le_mul_left _ hby) hroom
              rcases hxx with ⟨hvx, rfl⟩ | ⟨b, cx', cells, hvx, k2, k3, k4, k5, k6, k7⟩
              · refine grow 0 [] (by simp; omega) (by simp) (fun i z hz => by simp [nth] at hz) ?_
                have hr := run_append_nil (P := g.P) w t o.type ee ie ze hu hie hze ⟨by_, oy, none⟩ l2.length cy news (by rw [hnl, hie2]) hcell (by omega) (by simp at hroom; omega) (by simp at hb48; omega)
                rw [hvx, hvy]
                simpa using hr
              · have hxl : (cells.toList.take (l1.length * S.size u)).length = l1.length * S.size u := by
                  have : cells.toList.length = cells.size := Array.length_toList
                  rw [List.length_take, this, k6, Nat.min_eq_left (Nat.mul_le_mul_right _ k4)]
                have hxR : ∀ i z, nth l1 i = some z → S.R w (g.Z own2 w) u (((cells.toList.take (l1.length * S.size u)).drop (i * S.size u)).take (S.size u)) z := fun i z hz => by
                  have hi2 : i * S.size u + S.size u ≤ l1.length * S.size u := by
                    rw [← Nat.succ_mul]; exact Nat.mul_le_mul_right _ (nth_lt hz)
                  rw [List.drop_take, List.take_take, Nat.min_eq_left (by omega)]
                  exact k7 i z hz
                have hxc : ∀ (j : Nat) v, (cells.toList.take (l1.length * S.size u))[j]? = some v → w.cell? ((⟨b, 0, none⟩ : Addr).add j) = some v := fun j v hv => by
                  rw [add_off, Nat.zero_add, cell_of_row w b j cells ee (0, 0) k3]
                  rw [List.getElem?_take] at hv
                  split at hv
                  · simpa using hv
                  · cases hv
                by_cases hr : l1.length + l2.length ≤ cx'
                · have hfit : l1.length * S.size u + news.length ≤ cells.size := by rw [hnl, k6, ← Nat.add_mul]; exact Nat.mul_le_mul_right _ hr
                  have hrun := run_append_room (P := g.P) w t o.type ee ie hu hie b l1.length cx' cells k3 ⟨by_, oy, none⟩ l2.length cy news (by rw [hnl, hie2]) hcell hone hr (by rw [hie2]; exact hfit)
                  rw [hie2] at hrun
                  have hput : w.setRow b (cells.toList.take (l1.length * S.size u) ++ news ++ cells.toList.drop (l1.length * S.size u + news.length)).toArray = putCells w b (l1.length * S.size u) news := setRow_putCells k3
                  rw [hput] at hrun
                  have hbZ : ∀ b', g.Z own2 w b' → b' ≠ b := fun b' hz e => by rw [e] at hz; rw [hz.2.2] at k2; cases k2
                  have hZ4 : ∀ b', g.Z own2 w b' → g.Z own2 (putCells w b (l1.length * S.size u) news) b' := fun b' hb => ⟨hb.1, by rw [putCells_size]; exact hb.2.1, hb.2.2⟩
                  have hw4 : ∀ b', g.Z own2 w b' → (putCells w b (l1.length * S.size u) news).heap[b']? = w.heap[b']? := fun b' hb => putCells_ne (hbZ b' hb)
                  refine fin (h2.limW k2) (by rw [hvx, hvy]; exact hrun) (.inr ⟨b, cx', _, ?_, k2, putCells_at k3, ?_, k5, ?_, ?_⟩)
                  · rw [happ, List.length_append]
                  · rw [happ, List.length_append]; exact hr
                  · have : cells.toList.length = cells.size := Array.length_toList
                    rw [List.size_toArray, spl_len (by rw [this]; exact hfit), this]; exact k6
                  · intro i z hz
                    simp only [spl, List.append_assoc]
                    exact OW_ro.2 (hcat _ (fun cs z => S.R _ (g.Z own2 _) u cs z) hxl (fun i z hz => (hxR i z hz).frame hZ4 hw4) (hRZ hZ4 hw4) _ i z hz)
                · refine grow cx' _ (by omega) hxl hxR ?_
                  have hrun := run_append_grow (P := g.P) w t o.type ee ie ze hu hie hze ⟨b, 0, none⟩ l1.length cx' _ (by rw [hxl, hie2]) hxc ⟨by_, oy, none⟩ l2.length cy news (by rw [hnl, hie2]) hcell (by omega) (by simp only [maxLen] at hlen63; omega) (growslice_fits (by omega) hb48)
                  rw [hvx, hvy]; exact hrun
          · cases hκ
        · cases hκ
      · cases hκ
    · cases hκ
  · cases hκ

/-! ### A row is handed to a call -/
theorem row_of {own' : Nat → Option Own} {x : Operand} {u : Ty} {ee : Nat} {l : List (S.den u)} {p0 : Path} (hsc : u.scalar = true)
    (hxx : (a.eval x = .slice none 0 0 ∧ l = []) ∨ ∃ b c cells, a.eval x = .slice (some ⟨b, 0, none⟩) l.length c ∧ own' b = some (.lim, some p0) ∧
      w.heap[b]? = some (.cells cells ee (0, 0)) ∧ l.length ≤ c ∧ c ≤ maxLen ∧ cells.size = c * S.size u ∧ ∀ i y, nth l i = some y → S.R w (g.Z own' w) u ((cells.toList.drop (i * S.size u)).take (S.size u)) y) :
    ORow S w ee u (a.eval x) l ∧ ∀ b, rowOf (a.eval x) = some b → own' b = some (.lim, some p0) := by
  rcases hxx with ⟨k1, k2⟩ | ⟨b, cx, cells, k1, k2, k3, k4, k5, k6, k7⟩
  · exact ⟨.inl ⟨k1, k2⟩, fun b hb => by rw [k1] at hb; cases hb⟩
  · exact ⟨.inr ⟨b, cx, cells, k1, k3, k4, k5, k6, fun i y hy => scalar_R _ _ _ hsc (k7 i y hy)⟩, fun b' hb => by rw [k1] at hb; cases hb; exact k2⟩
theorem ofTwo_eq : ∀ (t : Bool) (xs : List Operand), xs = (ofTwo t xs).1 ++ (ofTwo t xs).2.toList
  | false, xs => by simp [ofTwo]
  | true, xs => by
    have key : ∀ ys : List Operand, ys.reverse = (match ys with | [] => (([], none) : List Operand × Option Operand) | x :: l => (l.reverse, some x)).1 ++ (match ys with | [] => (([], none) : List Operand × Option Operand) | x :: l => (l.reverse, some x)).2.toList := fun ys => by
      cases ys <;> simp
    have := key xs.reverse
    rw [List.reverse_reverse] at this
    exact this
theorem ofTwo_some {t : Bool} {xs : List Operand} {x : Operand} (h : (ofTwo t xs).2 = some x) : t = true := by
  cases t with
  | false => cases h
  | true => rfl
theorem do_callO {o : Oper} {c : Call} {f : Nat} {F : FSpec S.toNm} {O : OSpec S.toNm} {hn : Hint} {κ : ST S → Option α} {r : α} (ok : S.Ok) (T : TysOk g.P g.E) (hF : g.E.fs f = some F) (hFo : F.o = some O) (hok : OsOk g.P O f) (h : Rel g own st a w)
    (hd : ∀ d, o.dst = some d → d < a.tmps.size) (ho : o.op = .call c) (hc : c.callee = .value (.func f)) (hκ : callO g.E hn O c.args.toList c.argTypes.toList o.dst st κ = some r) : Do g (keepsOp g.E o) o a w κ r := by
  have hno : keepsOp g.E o = false := by simp only [keepsOp, ho, hc, hF, hFo]; simp
  -- behind the arguments
  have fin : ∀ (own2 : Nat → Option Own) (st2 : ST S) (x : Operand) (xs zs : List Operand) (y : S.den (packTy (argT O.ps))) (l l2 l' : List (S.den O.u)) (p1 : Path), Rel g own2 st2 a w → O.u.scalar = true → c.args.toList = x :: (xs ++ zs) →
      ORow S w O.e O.u (a.eval x) l → (∀ b, rowOf (a.eval x) = some b → own2 b = some (.lim, some [])) → ValsR S w (g.Z own2 w) O.ps (xs.map a.eval) y →
      (match O.two with | true => ∃ u, zs.map a.eval = [u] ∧ ORow S w O.e O.u u l2 ∧ ∀ b, rowOf u = some b → rowOf (a.eval x) ≠ some b | false => zs.map a.eval = [] ∧ l2 = []) → O.f l y l2 = some l' →
      κ (putCall hn o.dst (.v (.slice O.e O.u) (.own .ro) l') (st2.killBy AVal.deep)) = some r → Do g false o a w κ r := by
    intro own2 st2 x xs zs y l l2 l' p1 h2 hsc ex hrow hlab0 hV2 htwo hf hk
    have hlab : ∀ b, rowOf (a.eval x) = some b → ∃ q, own2 b = some (.lim, q) := fun b hb => ⟨_, hlab0 b hb⟩
    have hent := hok w (g.Z own2 w) (a.eval x) (xs.map a.eval) (zs.map a.eval) l y l2 l' (fun b hb => hb.2.1) hrow (fun b hb hz => by obtain ⟨q, e⟩ := hlab b hb; rw [hz.2.2] at e; cases e) hV2 htwo hf
    have hxa : (a.eval x :: (xs.map a.eval ++ zs.map a.eval)).toArray = c.args.map a.eval := by
      apply Array.ext'
      simp [ex]
    refine do_enters ho hc (Enters.mono (by rw [hxa] at hent; exact hent) fun v w' hres => ?_)
    obtain ⟨hos, htape, hout, hsize, hblk, hR, hfr⟩ := hres
    -- whose the new row is
    let own3 : Nat → Option Own := fun b => if b < w.heap.size then own2 b else if rowOf v = some b then some (.lim, some []) else none
    have hlt2 : ∀ b, own2 b ≠ none → b < w.heap.size := fun b hb => (h2.fresh b hb).2
    have hrowlt : ∀ b, rowOf v = some b → b < w'.heap.size := fun b hb => by
      rcases hR with ⟨k1, _⟩ | ⟨b', cx, cells, k1, k2, _⟩
      · rw [k1] at hb; cases hb
      · rw [k1] at hb; cases hb; exact (Array.getElem?_eq_some_iff.1 k2).1
    have hrel : Rel g own3 (st2.killBy AVal.deep) a w' := by
      refine h2.limCall (rowOf (a.eval x)) hos htape hout hsize hlab hblk (fun b hb => by simp [own3, hb]) (fun b hb hn => ?_)
      have hnb : ¬ b < w.heap.size := by omega
      by_cases e : rowOf v = some b
      · exact ⟨hrowlt b e, some [], by simp [own3, hnb, e]⟩
      · exact absurd (by simp [own3, hnb, e]) hn
    have hO : S.OW w' own3 (g.Z own3 w') .lim (.slice O.e O.u) (.own .ro) [] [v] l' := by
      rcases hR with ⟨k1, k2⟩ | ⟨b, cx, cells, k1, k3, k4, k5, k6, k7⟩
      · exact .inl ⟨by rw [k1], k2⟩
      · refine .inr ⟨b, cx, cells, by rw [k1], ?_, k3, k4, k5, k6, fun i y hy => OW_ro.2 (scalar_R _ _ _ hsc (k7 i y hy))⟩
        have hv : rowOf v = some b := by rw [k1]; rfl
        rcases hfr b hv with e | e
        · have h0 := hlab0 b e
          have : b < w.heap.size := hlt2 b (by rw [h0]; simp)
          simp [own3, this, h0]
        · have : ¬ b < w.heap.size := by omega
          simp [own3, this, hv]
    cases hdst : o.dst with
    | none =>
      rw [hdst] at hk
      exact ⟨own3, _, hrel, hk, fun h => by cases h⟩
    | some d =>
      rw [hdst] at hk
      obtain ⟨own4, h4⟩ := put_lim hrel hn (hd d hdst) (c := ⟨.slice O.e O.u, .own .ro, l'⟩) (v := v) rfl hO
      exact ⟨own4, _, h4, hk, fun h => by cases h⟩
  rw [hno]
  unfold callO at hκ
  split at hκ
  · rename_i x xs t ts ex et
    split at hκ
    · rename_i hcond
      simp only [Bool.and_eq_true, Bool.not_eq_true'] at hcond
      obtain ⟨⟨⟨hsc, hmap⟩, hio⟩, hty⟩ := hcond
      split at hκ
      · rename_i y st1 e1
        split at hκ
        · rename_i l st2 e2
          obtain ⟨own1, h1, hL1, hV⟩ := packArgs_ok ok O.ps _ ts own st st1 y h e1
          obtain ⟨own2, h2, hL2, hxx⟩ := appTake_ok ok h1 e2 []
          obtain ⟨hrow, hlab0⟩ := row_of hsc hxx
          have hV2 := ValsR.mono (fun b hb => hL2.Z hb) _ _ _ hV
          have hsplit := ofTwo_eq O.two xs
          split at hκ
          · rename_i hnone
            split at hκ
            · rename_i h2f
              obtain ⟨l', hf, hk⟩ := bindR_some hκ
              refine fin own2 st2 x (ofTwo O.two xs).1 [] y l [] l' [] h2 hsc (by rw [ex]; rw [hnone] at hsplit; simpa using hsplit) hrow hlab0 hV2 ?_ hf hk
              rw [h2f]; exact ⟨rfl, rfl⟩
            · cases hκ
          · rename_i x2 hsome
            split at hκ
            · rename_i l2 st3 e3
              obtain ⟨l', hf, hk⟩ := bindR_some hκ
              obtain ⟨own3, h3, hL3, hxx3⟩ := appTake_ok ok h2 e3 [.fst]
              obtain ⟨hrow3, hlab3⟩ := row_of hsc hxx3
              refine fin own3 st3 x (ofTwo O.two xs).1 [x2] y l l2 l' [] h3 hsc (by rw [ex]; rw [hsome] at hsplit; simpa using hsplit) hrow (fun b hb => hL3.lim b _ (hlab0 b hb)) (ValsR.mono (fun b hb => hL3.Z hb) _ _ _ hV2) ?_ hf hk
              rw [ofTwo_some hsome]
              refine ⟨_, rfl, hrow3, fun b hb hb0 => ?_⟩
              have k1 := hlab3 b hb
              have k2 := hL3.lim b _ (hlab0 b hb0)
              rw [k1] at k2; simp at k2
            · cases hκ
        · cases hκ
      · cases hκ
    · cases hκ
  · cases hκ

theorem do_call {o : Oper} {c : Call} {f : Nat} {hn : Hint} {κ : ST S → Option α} {r : α} (ok : S.Ok) (T : TysOk g.P g.E) (hfs : ∀ f F, g.E.fs f = some F → FnOk g.P F f) (hpin : ∀ d, d < a.tmps.size → g.pin d = none) (h : Rel g own st a w) (hd : ∀ d, o.dst = some d → d < a.tmps.size)
    (ho : o.op = .call c) (hc : c.callee = .value (.func f)) (hκ : opK g.E hn o st κ = some r) : Do g (keepsOp g.E o) o a w κ r := by
  simp only [opK, ho, hc] at hκ
  unfold callG at hκ
  split at hκ
  · cases hκ
  · rename_i F hF
    split at hκ
    · rename_i hFo
      exact do_callK ok hF ((hfs f F hF).zero hFo) hpin h hd ho hc hκ
    · rename_i O hFo
      exact do_callO ok T hF hFo ((hfs f F hF).own hFo) h hd ho hc hκ
end
end Go.Proofs.YtpmlimdilajidaaDoor.Vm
namespace Go.Proofs.YtpmlimdilajidaaDoor.Vm
open Go Go.RowKit
set_option linter.unusedVariables false

section
variable {S : Cx} {α : Type}
variable {g : Gl S} {own : Nat → Option Own} {st : ST S} {a : Act} {w : World}

/-- Operations that only read. -/
def reads (o : Oper) : Bool :=
  match o.op with
  | .move _ | .assign _ | .pick .. | .build .. | .load .. | .nilCheck _ | .binOp .. | .unOp .. | .convert .. | .fieldAddr .. | .field .. | .indexAddr .. | .index .. | .slice .. | .extract .. | .makeFunc .. | .lookup .. => true
  | .call c => match c.callee with
    | .builtin .len | .builtin .min | .builtin .max => true
    | _ => false
  | _ => false

theorem op_rd {o : Oper} {hn : Hint} {κ : ST S → Option α} {r : α} (ok : S.Ok) (T : TysOk g.P g.E) (h : Rel g own st a w) (hd : ∀ d, o.dst = some d → d < a.tmps.size)
    (hr : reads o = true) (hκ : opK g.E hn o st κ = some r) : Rd g o a w κ r := by
  cases ho : o.op with
  | move x => exact rd_move h hd ho hκ
  | assign x => exact rd_assign ok h hd ho hκ
  | pick c x y => exact rd_pick ok h hd ho hκ
  | build e ps => exact rd_build ok T h hd ho hκ
  | load e x => exact rd_load ok T h hd ho hκ
  | nilCheck x => exact rd_nilCheck ok h hd ho hκ
  | binOp op xt x y yt => exact rd_bin ok T h hd ho hκ
  | unOp op xt x => exact rd_un ok h hd ho hκ
  | convert s d x => exact rd_convert ok T h hd ho hκ
  | fieldAddr e x f => exact rd_fieldAddr ok T h hd ho hκ
  | field e x f => exact rd_field ok T h hd ho hκ
  | indexAddr e x i => exact rd_indexAddr ok T h hd ho hκ
  | index e x i => exact rd_index ok T h hd ho hκ
  | slice e x lo hi mx =>
    cases mx with
    | none => exact rd_slice ok T h hd ho hκ
    | some m => simp only [opK, ho] at hκ; cases hκ
  | extract x i => exact rd_extract h hd ho hκ
  | makeFunc fn first cap => exact rd_makeFunc ok h hd ho hκ
  | lookup t x i two => exact rd_lookup ok T h hd ho hκ
  | call c =>
    unfold reads at hr
    rw [ho] at hr
    simp only at hr
    split at hr
    · rename_i hc; exact rd_len ok T h hd ho hc hκ
    · rename_i hc; exact rd_min ok h hd ho hc hκ
    · rename_i hc; exact rd_max ok h hd ho hc hκ
    · cases hr
  | _ => unfold reads at hr; rw [ho] at hr; cases hr

theorem Do.mono {keep keep' : Bool} {o : Oper} {κ : ST S → Option α} {r : α} (hk : keep' = true → keep = true) (h : Do g keep o a w κ r) : Do g keep' o a w κ r := fun Q =>
  Oper.wp_mono (fun a' w' ⟨own', st', h1, h2, h3, h4⟩ => ⟨own', st', h1, h2, h3, fun h => h4 (hk h)⟩) (h Q)

theorem op_do {o : Oper} {hn : Hint} {κ : ST S → Option α} {r : α} (ok : S.Ok) (T : TysOk g.P g.E) (hfs : ∀ f F, g.E.fs f = some F → FnOk g.P F f) (hpin : ∀ d, d < a.tmps.size → g.pin d = none) (h : Rel g own st a w) (hd : ∀ d, o.dst = some d → d < a.tmps.size)
    (hκ : opK g.E hn o st κ = some r) : Do g (keepsOp g.E o) o a w κ r := by
  cases hr : reads o with
  | true => exact (op_rd ok T h hd hr hκ).do
  | false =>
    cases ho : o.op with
    | alloc e => exact (do_alloc ok T hpin h hd ho hκ).mono (fun _ => rfl)
    | box e x => exact (do_box ok hpin h hd ho hκ).mono (fun _ => rfl)
    | buildSlice e n ps => exact (do_buildSlice ok T h hd ho hκ).mono (fun _ => rfl)
    | store e x y => exact (do_store ok T (hn := hn) h ho hκ).mono (fun e => by simp [keepsOp, ho] at e)
    | call c =>
      simp only [opK, ho] at hκ
      cases hc : c.callee with
      | value x =>
        cases x with
        | func f => exact do_call ok T hfs hpin h hd ho hc (by simp only [opK, ho]; exact hκ)
        | tmp s => exact (do_callC ok hfs hpin h hd ho hc (by simp only [opK, ho]; exact hκ)).mono (fun _ => rfl)
        | _ => rw [hc] at hκ; cases hκ
      | builtin b =>
        cases b with
        | append => exact (do_append ok T h hd ho hc (by simp only [opK, ho]; exact hκ)).mono (fun e => by simp [keepsOp, ho, hc] at e)
        | len => unfold reads at hr; rw [ho] at hr; simp only [hc] at hr; cases hr
        | min => unfold reads at hr; rw [ho] at hr; simp only [hc] at hr; cases hr
        | max => unfold reads at hr; rw [ho] at hr; simp only [hc] at hr; cases hr
        | _ => rw [hc] at hκ; cases hκ
      | invoke x n => rw [hc] at hκ; cases hκ
    | slice e x lo hi mx => unfold reads at hr; rw [ho] at hr; cases hr
    | move => unfold reads at hr; rw [ho] at hr; cases hr
    | assign => unfold reads at hr; rw [ho] at hr; cases hr
    | pick => unfold reads at hr; rw [ho] at hr; cases hr
    | build => unfold reads at hr; rw [ho] at hr; cases hr
    | load => unfold reads at hr; rw [ho] at hr; cases hr
    | nilCheck => unfold reads at hr; rw [ho] at hr; cases hr
    | binOp => unfold reads at hr; rw [ho] at hr; cases hr
    | unOp => unfold reads at hr; rw [ho] at hr; cases hr
    | convert => unfold reads at hr; rw [ho] at hr; cases hr
    | fieldAddr => unfold reads at hr; rw [ho] at hr; cases hr
    | field => unfold reads at hr; rw [ho] at hr; cases hr
    | indexAddr => unfold reads at hr; rw [ho] at hr; cases hr
    | index => unfold reads at hr; rw [ho] at hr; cases hr
    | extract => unfold reads at hr; rw [ho] at hr; cases hr
    | makeFunc => unfold reads at hr; rw [ho] at hr; cases hr
    | lookup => unfold reads at hr; rw [ho] at hr; cases hr
    | makeMap t res => exact (do_makeMap ok h hd ho hκ).mono (fun _ => rfl)
    | mapUpdate t x i z => exact (do_mapUpdate ok T (hn := hn) h ho hκ).mono (fun e => by simp [keepsOp, ho] at e)
    | _ => simp only [opK, ho] at hκ; cases hκ

/-! ### Guards -/
theorem put_same {a : Act} {d : Nat} {v : Value} (hd : d < a.tmps.size) (h : a.tmps.getD d undef = v) : a.put (some d) v = a := by
  have : a.tmps.setIfInBounds d v = a.tmps := by
    apply Array.ext_getElem?
    intro i
    rw [Array.getElem?_setIfInBounds]
    by_cases hi : d = i
    · subst hi
      simp only [if_true, hd]
      rw [Array.getD_eq_getD_getElem?] at h
      simp [hd] at h ⊢
      exact h.symm
    · rw [if_neg hi]
  simp only [Act.put, this]

theorem beqs (x b : Bool) : (some x == some b) = (x == b) := by cases x <;> cases b <;> rfl

theorem guard_step {ops : Array Oper} {o : Oper} {hn : Hint} {κ : ST S → Option α} {r : α} (h : Rel g own st a w) (hall : ∀ (o : Oper), o ∈ ops.toList → ∀ d, o.dst = some d → d < a.tmps.size) (hd : ∀ d, o.dst = some d → d < a.tmps.size)
    (hκ : guardK g.E hn ops.toList o st κ = some r) :
    (Region.wanted o (yielded ops a.tmps) = true ∧ ∃ st1, Rel g own st1 a w ∧ opK g.E hn o st1 κ = some r) ∨
    (Region.wanted o (yielded ops a.tmps) = false ∧ ∃ st1, Rel g own st1 (a.put o.dst undef) w ∧ κ st1 = some r) := by
  unfold guardK at hκ
  split at hκ
  · rename_i hg
    exact .inl ⟨by simp [Region.wanted, hg], st, h, hκ⟩
  · rename_i j b hg
    split at hκ
    · rename_i d hdj
      split at hκ
      · rename_i m x hl
        split at hκ
        · have hκ := ask_some hκ
          have hv := h.vals d
          rw [hl] at hv
          have hdl : d < a.tmps.size := by
            obtain ⟨oj, h1, h2⟩ := Option.bind_eq_some_iff.1 hdj
            exact hall oj (List.mem_of_getElem? h1) d h2
          have hval : a.tmps.getD d undef = .bool x := by
            obtain ⟨cs, h1, h2⟩ := TR_ro.1 hv
            have := Cx.R_bool.1 h2
            subst this
            exact (List.cons.inj h1).1.symm
          have hrel : Rel g own (st.put hn d (.v .bool .ro x)) a w := by
            have := h.put hn hdl (x := .v .bool .ro x) (v := .bool x) (TR_ro.2 ro_bool)
            rw [put_same hdl hval] at this
            exact this
          have hy : yielded ops a.tmps j = some x := by
            have hdj' : (ops[j]?).bind (·.dst) = some d := by simpa using hdj
            unfold yielded
            rw [hdj']
            have : a.tmps[d]? = some (.bool x) := by
              rw [Array.getD_eq_getD_getElem?] at hval
              rw [Array.getElem?_eq_getElem hdl] at hval ⊢
              simpa using hval
            simp only [Option.bind_some, this]
            rfl
          have hw : Region.wanted o (yielded ops a.tmps) = @BEq.beq Bool _ x b := by
            simp only [Region.wanted, hg, hy]
            exact beqs x b
          split at hκ
          · rename_i e
            exact .inl ⟨by rw [hw]; exact e, _, hrel, hκ⟩
          · rename_i e
            refine .inr ⟨by rw [hw]; exact e, ?_⟩
            cases hdst : o.dst with
            | none => rw [hdst] at hκ; exact ⟨_, hrel, hκ⟩
            | some d' =>
              rw [hdst] at hκ
              exact ⟨_, hrel.put hn (hd d' hdst) (x := .und) rfl, hκ⟩
        · cases hκ
      · rename_i hl
        have hv := h.vals d
        rw [hl] at hv
        have hv : a.tmps.getD d undef = undef := hv
        have hy : yielded ops a.tmps j = none := by
          have hdj' : (ops[j]?).bind (·.dst) = some d := by simpa using hdj
          unfold yielded
          rw [hdj']
          simp only [Option.bind_some]
          rw [Array.getD_eq_getD_getElem?] at hv
          cases he : a.tmps[d]? with
          | none => rfl
          | some v => rw [he] at hv; simp at hv; subst hv; rfl
        have hw : Region.wanted o (yielded ops a.tmps) = false := by
          simp only [Region.wanted, hg, hy]
          rfl
        refine .inr ⟨hw, ?_⟩
        cases hdst : o.dst with
        | none => rw [hdst] at hκ; exact ⟨_, h, hκ⟩
        | some d' =>
          rw [hdst] at hκ
          exact ⟨_, h.put hn (hd d' hdst) (x := .und) rfl, hκ⟩
      · cases hκ
    · cases hκ

/-! ### A region whose order is drawn -/
/-- What stands in these blocks stays. -/
structure Keeps (K : Nat → Prop) (w w' : World) : Prop where
  os : w'.os = w.os
  tape : w'.tape = w.tape
  output : w'.output = w.output
  block : ∀ b x, K b → w.heap[b]? = some x → w'.heap[b]? = some x
theorem Keeps.refl (K : Nat → Prop) (w : World) : Keeps K w w := ⟨rfl, rfl, rfl, fun _ _ _ h => h⟩
theorem Keeps.trans {K : Nat → Prop} {w w' w'' : World} (h : Keeps K w w') (h' : Keeps K w' w'') : Keeps K w w'' :=
  ⟨h'.os.trans h.os, h'.tape.trans h.tape, h'.output.trans h.output, fun b x hk hb => h'.block b x hk (h.block b x hk hb)⟩
theorem Keeps.mono {K K' : Nat → Prop} {w w' : World} (h : Keeps K w w') (hk : ∀ b, K' b → K b) : Keeps K' w w' := ⟨h.os, h.tape, h.output, fun b x hb => h.block b x (hk b hb)⟩
theorem Keeps.same {K : Nat → Prop} {w w' : World} (h : Keeps K w w') {b : Nat} (hb : b < w.heap.size) (hk : K b) : w'.heap[b]? = w.heap[b]? := by
  have e := Array.getElem?_eq_getElem hb
  rw [e, h.block b _ hk e]
theorem Keeps.of_below {K : Nat → Prop} {w w' : World} (h : Below w.heap.size w w') : Keeps K w w' := ⟨h.os, h.tape, h.output, fun b x _ hx => by
  rw [h.block b (Array.getElem?_eq_some_iff.1 hx).1]; exact hx⟩
theorem Keeps.below {K : Nat → Prop} {w w' : World} (h : Keeps K w w') (hk : ∀ b, K b) : Below w.heap.size w w' := ⟨h.os, h.tape, h.output, by
  rcases Nat.eq_zero_or_pos w.heap.size with h0 | h0
  · omega
  · have := h.same (b := w.heap.size - 1) (by omega) (hk _)
    rw [Array.getElem?_eq_getElem (show w.heap.size - 1 < w.heap.size by omega)] at this
    have := (Array.getElem?_eq_some_iff.1 this).1
    omega, fun b hb => h.same hb (hk b)⟩

/-- No operation writes it. -/
def fixedT (ops : Array Oper) (t : Nat) : Bool := ops.toList.all fun o => match o.dst with
  | some d => d != t
  | none => true
theorem fixedT_ne {ops : Array Oper} {t : Nat} (h : fixedT ops t = true) {i d : Nat} {o : Oper} (hi : ops[i]? = some o) (hd : o.dst = some d) : d ≠ t := by
  have := List.all_eq_true.1 h o (List.mem_of_getElem? (by simpa using hi : ops.toList[i]? = some o))
  rw [hd] at this
  simpa using this
def Fix (ops : Array Oper) (a a' : Act) : Prop := ∀ t, fixedT ops t = true → a'.tmps.getD t undef = a.tmps.getD t undef
theorem Fix.refl (ops : Array Oper) (a : Act) : Fix ops a a := fun _ _ => rfl
theorem Fix.trans {ops : Array Oper} {a a' a'' : Act} (h : Fix ops a a') (h' : Fix ops a' a'') : Fix ops a a'' := fun t ht => (h' t ht).trans (h t ht)
theorem Fix.symm {ops : Array Oper} {a a' : Act} (h : Fix ops a a') : Fix ops a' a := fun t ht => (h t ht).symm
theorem getD_set_ne' {A : Array Value} {d t : Nat} {v : Value} (h : d ≠ t) : (A.setIfInBounds d v).getD t undef = A.getD t undef := by
  rw [Array.getD_eq_getD_getElem?, Array.getD_eq_getD_getElem?, Array.getElem?_setIfInBounds, if_neg h]
theorem Fix.put {ops : Array Oper} {i : Nat} {o : Oper} (hi : ops[i]? = some o) (a : Act) (v : Value) : Fix ops a (a.put o.dst v) := fun t ht => by
  cases hd : o.dst with
  | none => rfl
  | some d => exact getD_set_ne' (fixedT_ne ht hi hd)
theorem opwp_fix {P : Program} {Q : Exit → Act → World → Prop} {ops : Array Oper} {j : Nat} {oj : Oper} (hj : ops[j]? = some oj) {K : Act → World → Prop}
    (h : oj.wp P a w K Q) : oj.wp P a w (fun a' w' => Fix ops a a' ∧ K a' w') Q := by
  unfold Oper.wp at *
  generalize (execOp a.eval oj).run P w = r at *
  cases r with
  | ok n w' =>
    cases n <;> simp only [Oper.upon] at h ⊢
    case value u => exact ⟨.put hj a u, h⟩
    case skip => exact ⟨.put hj a _, h⟩
    case defer d => exact ⟨.put hj { a with defers := d :: a.defers } _, h⟩
    case enter f args =>
      refine Calls.mono h fun e w'' he => ?_
      cases e with
      | returned u => exact ⟨.put hj a u, he⟩
      | panicked c => exact he
      | outgrown => exact he
    case row row args => exact Rows.mono h fun u w'' he => ⟨.put hj a u, he⟩
  | halt x w' =>
    cases x <;> simp only [Oper.upon] at h ⊢
    case panic u => exact h
theorem wpOp_fix {P : Program} {Q : Exit → Act → World → Prop} {ops : Array Oper} {j : Nat} {oj : Oper} (hj : ops[j]? = some oj) {K : Act → World → Prop}
    (h : wpOp P ops Q j K a w) : wpOp P ops Q j (fun a' w' => Fix ops a a' ∧ K a' w') a w := by
  unfold wpOp at *
  simp only [hj] at h ⊢
  split
  · rename_i hw
    simp only [hw, if_true] at h
    rcases h with h | h
    · exact .inl (opwp_fix hj h)
    · exact .inr h
  · rename_i hw
    simp only [hw] at h
    exact ⟨.put hj a _, h⟩

/-- The blocks that an operation keeps. -/
def kOp (E : Env S) (ops : Array Oper) (a : Act) (o : Oper) (b : Nat) : Prop :=
  keepsOp E o = true ∨ ∃ e t y, o.op = .store e (.tmp t) y ∧ fixedT ops t = true ∧ ∀ b' off p, a.tmps.getD t undef = .pointer (some ⟨b', off, p⟩) → b ≠ b'
theorem kOp_fix {E : Env S} {ops : Array Oper} {a a' : Act} (h : Fix ops a a') {o : Oper} {b : Nat} (hk : kOp E ops a o b) : kOp E ops a' o b := by
  rcases hk with hk | ⟨e, t, y, h1, h2, h3⟩
  · exact .inl hk
  · exact .inr ⟨e, t, y, h1, h2, fun b' off p hp => h3 b' off p ((h t h2).symm.trans hp)⟩

def wpAnyK (P : Program) (E : Env S) (md : Region.Mode) (ops : Array Oper) (Q : Exit → Act → World → Prop) : Nat → Array Bool → Act → World → Prop
  | 0, listed, a, w => Region.ready md ops listed = [] ∧ Q .normal a w
  | fuel + 1, listed, a, w =>
    (Region.ready md ops listed = [] → Q .normal a w) ∧
    ∀ i ∈ Region.ready md ops listed, wpOp P ops Q i (fun a' w' => (∀ o, ops[i]? = some o → Keeps (kOp E ops a o) w w') ∧ wpAnyK P E md ops Q fuel (listed.setIfInBounds i true) a' w') a w

theorem wpAny_of_K {P : Program} {E : Env S} {md : Region.Mode} {ops : Array Oper} {Q : Exit → Act → World → Prop} : ∀ (fuel : Nat) (listed : Array Bool) (a : Act) (w : World), wpAnyK P E md ops Q fuel listed a w → wpAny P md ops Q fuel listed a w
  | 0, _, _, _, h => h
  | fuel + 1, _, _, _, h => ⟨h.1, fun i hi => wpOp_mono (fun a' w' h' => wpAny_of_K fuel _ a' w' h'.2) (h.2 i hi)⟩

/-- All these wait for it, one for another. -/
def Waits (md : Region.Mode) (ops : Array Oper) (i : Nat) (W : List Nat) : Prop := ∀ j ∈ W, ∃ oj, ops[j]? = some oj ∧ ∃ e ∈ oj.after, Region.binds md e = true ∧ (e.on = i ∨ e.on ∈ W)
def waitsGo (md : Region.Mode) (ops : Array Oper) (i : Nat) : List Nat → List Nat → List Nat
  | [], acc => acc
  | j :: js, acc => waitsGo md ops i js (match ops[j]? with
    | some o => match o.after.any (fun e => Region.binds md e && (e.on == i || acc.contains e.on)) with
      | true => j :: acc
      | false => acc
    | none => acc)
theorem waitsGo_ok {md : Region.Mode} {ops : Array Oper} {i : Nat} : ∀ (js acc : List Nat), Waits md ops i acc → Waits md ops i (waitsGo md ops i js acc) := by
  intro js
  induction js with
  | nil => intro acc h; exact h
  | cons j js ih =>
    intro acc h
    refine ih _ ?_
    split
    · rename_i o ho
      split
      · rename_i hany
        obtain ⟨e, he, hb⟩ := Array.any_eq_true'.1 hany
        simp only [Bool.and_eq_true, Bool.or_eq_true, beq_iff_eq, List.contains_iff_mem] at hb
        intro k hk
        rcases List.mem_cons.1 hk with rfl | hk
        · exact ⟨o, ho, e, he, hb.1, hb.2.imp id (List.mem_cons_of_mem _)⟩
        · obtain ⟨ok, h1, e', h2, h3, h4⟩ := h k hk
          exact ⟨ok, h1, e', h2, h3, h4.imp id (List.mem_cons_of_mem _)⟩
      · exact h
    · exact h

/-- An operation that only reads is taken first, if those that write what it reads wait for it. -/
theorem wpAnyK_first {P : Program} {E : Env S} {md : Region.Mode} {ops : Array Oper} {Q : Exit → Act → World → Prop} {i : Nat} {oi : Oper} {v : Value} {B : Nat → Prop} {W : List Nat} (hW : Waits md ops i W) (hi : ops[i]? = some oi)
    (hsel : ∀ (j : Nat) (o : Oper) cs b, ops[j]? = some o → o.op ≠ .select cs b) (hQ : ∀ c a w, Q (.panic c) (a.put oi.dst v) w → Q (.panic c) a w) :
    ∀ (fuel : Nat) (listed : Array Bool) (a : Act) (w : World),
      (∀ j ∈ W, listed.getD j true = false) → (∀ j oj, ops[j]? = some oj → j ≠ i → listed.getD j true = false → j ∉ W → (∀ e ∈ oj.after, Region.binds md e = true → e.on ≠ i) → oi.apart ops oj = true ∧ ∀ b, B b → kOp E ops a oj b) →
      i ∈ Region.ready md ops listed → YieldsIf P ops (Keeps B w) oi v a →
      wpAnyK P E md ops Q fuel (listed.setIfInBounds i true) (a.put oi.dst v) w → wpAnyK P E md ops Q (fuel + 1) listed a w := by
  intro fuel
  induction fuel with
  | zero =>
    intro listed a w _ _ hr hy H
    refine ⟨fun h => (by rw [h] at hr; cases hr), fun j hj => ?_⟩
    by_cases hji : j = i
    · subst hji; exact hy.wpOp hi (Keeps.refl _ _) ⟨fun _ _ => Keeps.refl _ _, H⟩
    · have := ready_mono hj hji
      rw [H.1] at this
      cases this
  | succ fuel ih =>
    intro listed a w hWl hfree hr hy H
    refine ⟨fun h => (by rw [h] at hr; cases hr), fun j hj => ?_⟩
    by_cases hji : j = i
    · subst hji; exact hy.wpOp hi (Keeps.refl _ _) ⟨fun _ _ => Keeps.refl _ _, H⟩
    · have h1 := H.2 j (ready_mono hj hji)
      obtain ⟨hjun, oj, hoj, hall⟩ := mem_ready.1 hj
      have hnot : ∀ e ∈ oj.after, Region.binds md e = true → e.on ≠ i := fun e he hb heq => by
        have h1 := hall e he hb
        have h0 := (mem_ready.1 hr).1
        rw [heq] at h1
        rcases Nat.lt_or_ge i listed.size with h' | h'
        · simp [h'] at h0 h1; rw [h0] at h1; cases h1
        · simp [Array.getElem?_eq_none h'] at h1
      have hjW : j ∉ W := fun hm => by
        obtain ⟨oj', h1', e, he, hb, hor⟩ := hW j hm
        rw [hoj] at h1'
        cases h1'
        have hl := hall e he hb
        rcases hor with hor | hor
        · exact hnot e he hb hor
        · have hu := hWl e.on hor
          rcases Nat.lt_or_ge e.on listed.size with h' | h'
          · simp [h'] at hu hl; rw [hu] at hl; cases hl
          · simp [Array.getElem?_eq_none h'] at hl
      obtain ⟨hap, hks⟩ := hfree j oj hoj hji hjun hjW hnot
      have h2 := wpOp_fix hoj (wpOp_putIf hoj hap (fun cs b => hsel i oi cs b hi) (fun cs b => hsel j oj cs b hoj) hQ hy h1)
      refine wpOp_mono (fun a' w' h3 => ?_) h2
      obtain ⟨hfx, hyi, hkeep, h4⟩ := h3
      have hkeep := hkeep oj hoj
      have hkeep' : Keeps (kOp E ops a oj) w w' := hkeep.mono fun b hb => kOp_fix (.put hi a v) hb
      refine ⟨fun o ho => by rw [hoj] at ho; cases ho; exact hkeep', ?_⟩
      have hfree' : ∀ k ok, ops[k]? = some ok → k ≠ i → (listed.setIfInBounds j true).getD k true = false →
          k ∉ W → (∀ e ∈ ok.after, Region.binds md e = true → e.on ≠ i) → oi.apart ops ok = true ∧ ∀ b, B b → kOp E ops a' ok b := fun k ok hk hki hun hkW hno => by
        have := hfree k ok hk hki (by
          by_cases hjk : j = k
          · subst hjk; exact hjun
          · rw [getD_set_ne true hjk] at hun; exact hun) hkW hno
        exact ⟨this.1, fun b hb => kOp_fix hfx (this.2 b hb)⟩
      have hbel : Keeps B w w' := hkeep'.mono hks
      have hWl' : ∀ k ∈ W, (listed.setIfInBounds j true).getD k true = false := fun k hk => by
        have : j ≠ k := fun e => hjW (e ▸ hk)
        rw [getD_set_ne true this]; exact hWl k hk
      refine ih (listed.setIfInBounds j true) a' w' hWl' hfree' (ready_mono hr (Ne.symm hji)) ?_ ?_
      · rcases hyi with ⟨hw, hv⟩ | hw
        · exact .inl ⟨hw, fun w'' hw'' => hv w'' (hbel.trans hw'')⟩
        · exact .inr hw
      · rw [Array.setIfInBounds_comm _ _ hji]
        exact h4

/-- It looks at no memory. -/
def noMem0 (o : Oper) : Bool :=
  match o.op with
  | .move _ | .assign _ | .extract .. => true
  | _ => false
def noMem (o : Oper) : Bool :=
  match o.op with
  | .move _ | .assign _ | .extract .. | .nilCheck _ | .fieldAddr .. => true
  | _ => false
theorem noMem_run {P : Program} {ρ : Operand → Value} {o : Oper} {v : Value} {w : World} (h : noMem0 o = true) (hr : (execOp ρ o).run P w = .ok (.value v) w) (w' : World) : (execOp ρ o).run P w' = .ok (.value v) w' := by
  unfold noMem0 at h
  split at h
  · rename_i x ho
    have e := run_move (P := P) (ρ := ρ) (.inl ho) w
    rw [hr] at e
    cases e
    exact run_move (.inl ho) w'
  · rename_i x ho
    have e := run_move (P := P) (ρ := ρ) (.inr ho) w
    rw [hr] at e
    cases e
    exact run_move (.inr ho) w'
  · rename_i x i ho
    simp only [execOp, ho] at hr ⊢
    unfold Instr.extract at hr ⊢
    split at hr
    · split at hr
      · cases hr; rfl
      · cases hr
    · cases hr
  · cases h

/-- A load and a store to another memory. -/
def sepOp (ops : Array Oper) (ps : List (Nat × Nat)) (o oj : Oper) : Bool :=
  match o.op with
  | .load _ (.tmp t) => match oj.op with
    | .store _ (.tmp t') _ => fixedT ops t && fixedT ops t' && ps.contains (t, t')
    | _ => false
  | _ => false

def freeFor (E : Env S) (ops : Array Oper) (ps : List (Nat × Nat)) (W : List Nat) (i : Nat) (listed : Array Bool) : Bool :=
  W.all (fun j => !listed.getD j true) && (List.range ops.size).all fun j => j == i || listed.getD j true || match ops[j]? with
    | some oj => oj.after.any (fun e => Region.binds .any e && e.on == i) || keepsOp E oj || (match ops[i]? with
      | some o => noMem o || sepOp ops ps o oj
      | none => false) || W.contains j
    | none => true
def stepOk (E : Env S) (ops : Array Oper) (ps : List (Nat × Nat)) (i : Nat) (listed : Array Bool) : Bool :=
  match Region.ready .any ops listed with
  | [j] => i == j
  | rs => rs.contains i && (match ops[i]? with
    | some o => reads o
    | none => false) && Region.free .any ops listed i && (freeFor E ops ps [] i listed || freeFor E ops ps (waitsGo .any ops i (List.range ops.size) []) i listed)
/-- May that order stand for all? -/
def okOrd (E : Env S) (ops : Array Oper) (ps : List (Nat × Nat)) : List Nat → Array Bool → Bool
  | [], listed => (Region.ready .any ops listed).isEmpty
  | i :: l, listed => stepOk E ops ps i listed && okOrd E ops ps l (listed.setIfInBounds i true)

/-- What a code leaves. -/
def QV (g : Gl S) (n : Nat) (κ : Exit → ST S → Option α) (r : α) : Exit → Act → World → Prop := fun e a w =>
  match e with
  | .panic _ => False
  | .outgrown => False
  | .goto _ => False
  | e => ∃ own st, Rel g own st a w ∧ κ e st = some r ∧ a.tmps.size = n

/-- What a load reads hangs on one block alone. -/
theorem load_keeps {o : Oper} {e : TypeId} {x : Operand} {hn : Hint} {κ : ST S → Option α} {r : α} (ok : S.Ok) (T : TysOk g.P g.E) (h : Rel g own st a w)
    (ho : o.op = .load e x) (hκ : opK g.E hn o st κ = some r) : ∃ v, ∀ w', (∀ b off p, a.eval x = .pointer (some ⟨b, off, p⟩) → b < w.heap.size → w'.heap[b]? = w.heap[b]?) → (execOp a.eval o).run g.P w' = .ok (.value v) w' := by
  simp only [opK, ho] at hκ
  have hv := av_ok g.E h x 0 0
  split at hκ
  · rename_i t y ex
    rw [ex] at hv
    obtain ⟨b, off, cs, v1, hb, hc, hR⟩ := hv
    split at hκ
    · rename_i ht
      have tf := T _ _ (Env.is_lookup ht)
      refine ⟨valOf t cs, fun w' hw' => ?_⟩
      simp only [execOp, ho, v1]
      exact run_v (run_loadAt tf (by rw [cellsAt_same (hw' b off none v1 (cellsAt_lt hc))]; exact hc))
    · cases hκ
  · rename_i rt p ex
    rw [ex] at hv
    obtain ⟨b, off, cs, c, hp, v1⟩ := hv
    split at hκ
    · rename_i t m y e2
      have := at_place hp e2
      subst this
      split at hκ
      · rename_i ht
        have tf := T _ _ (Env.is_lookup ht)
        obtain ⟨hl, hcs⟩ := hp.cells ok h
        have hc := hcs b off rfl
        refine ⟨valOf t cs, fun w' hw' => ?_⟩
        simp only [execOp, ho, v1]
        exact run_v (run_loadAt tf (by rw [cellsAt_same (hw' b off none v1 (cellsAt_lt hc))]; exact hc))
      · cases hκ
    · cases hκ
  · cases hκ

def RdB (g : Gl S) (B : Nat → Prop) (o : Oper) (a : Act) (w : World) (κ : ST S → Option α) (r : α) : Prop :=
  ∃ v own' st', (∀ w', Keeps B w w' → (execOp a.eval o).run g.P w' = .ok (.value v) w') ∧ Rel g own' st' (a.put o.dst v) w ∧ κ st' = some r

/-- The blocks that an operation reads. -/
def bOp (a : Act) (o : Oper) (b : Nat) : Prop := noMem o = false ∧ ∀ e t, o.op = .load e (.tmp t) → ∃ off p, a.tmps.getD t undef = .pointer (some ⟨b, off, p⟩)

theorem nil_any {o : Oper} {x : Operand} {hn : Hint} {κ : ST S → Option α} {r : α} (h : Rel g own st a w) (ho : o.op = .nilCheck x) (hκ : opK g.E hn o st κ = some r) : ∃ v, ∀ w', (execOp a.eval o).run g.P w' = .ok (.value v) w' := by
  simp only [opK, ho] at hκ
  have hv := av_ok g.E h x 0 0
  split at hκ
  · rename_i n m y ex
    rw [ex] at hv
    have hm := av_ro g.E ex
    subst hm
    obtain ⟨cs, h1, h2⟩ := TR_ro.1 hv
    obtain ⟨z, hz, hκ⟩ := bindR_some hκ
    rcases Cx.R_ptr.1 h2 with ⟨_, hy⟩ | ⟨b, z', cs', rfl, hy, hZ, hc, hR⟩
    · exact absurd (hy.symm.trans hz) (by simp)
    · have v1 : a.eval x = .pointer (some ⟨b, 0, none⟩) := (List.cons.inj h1).1.symm
      exact ⟨_, fun w' => run_nilCheck ho v1 w'⟩
  · rename_i rt p ex
    rw [ex] at hv
    obtain ⟨b, off, cs, c, hp, v1⟩ := hv
    exact ⟨_, fun w' => run_nilCheck ho v1 w'⟩
  · rename_i t y ex
    rw [ex] at hv
    obtain ⟨b, off, cs, v1, _⟩ := hv
    exact ⟨_, fun w' => run_nilCheck ho v1 w'⟩
  · cases hκ
theorem field_any {o : Oper} {e : TypeId} {x : Operand} {f : Nat} {hn : Hint} {κ : ST S → Option α} {r : α} (T : TysOk g.P g.E) (h : Rel g own st a w) (ho : o.op = .fieldAddr e x f) (hκ : opK g.E hn o st κ = some r) :
    ∃ v, ∀ w', (execOp a.eval o).run g.P w' = .ok (.value v) w' := by
  simp only [opK, ho] at hκ
  have hv := av_ok g.E h x 0 0
  split at hκ
  · rename_i t y ex
    rw [ex] at hv
    obtain ⟨b, off, cs, v1, hb, hc, hR⟩ := hv
    split at hκ
    · rename_i ht
      split at hκ
      · rename_i p hp
        obtain ⟨u, q, rfl, rfl, hq⟩ := fieldPath_some hp
        obtain ⟨off', tt, h1, _⟩ := run_fieldAt T (T _ _ (Env.is_lookup ht)) hq
        exact ⟨_, fun w' => run_fieldAddr ho v1 (h1 w' b off)⟩
      · cases hκ
    · cases hκ
  · rename_i rt p ex
    rw [ex] at hv
    obtain ⟨b, off, cs, c, hp, v1⟩ := hv
    split at hκ
    · rename_i c' e2
      split at hκ
      · rename_i ht
        split at hκ
        · rename_i q hq0
          obtain ⟨ct, cm, cx⟩ := c'
          obtain ⟨u, q, hct, rfl, hq⟩ := fieldPath_some hq0
          simp only at hct ht
          subst hct
          obtain ⟨off', tt, h1, _⟩ := run_fieldAt T (T _ _ (Env.is_lookup ht)) hq
          exact ⟨_, fun w' => run_fieldAddr ho v1 (h1 w' b off)⟩
        · cases hκ
      · cases hκ
    · cases hκ
  · cases hκ
theorem op_rdB {o : Oper} {hn : Hint} {κ : ST S → Option α} {r : α} (ok : S.Ok) (T : TysOk g.P g.E) (h : Rel g own st a w) (hd : ∀ d, o.dst = some d → d < a.tmps.size)
    (hr : reads o = true) (hκ : opK g.E hn o st κ = some r) : RdB g (bOp a o) o a w κ r := by
  obtain ⟨v, own', st', h1, h2, h3⟩ := op_rd ok T h hd hr hκ
  cases hnm : noMem o with
  | true =>
    have e1 := h1 w (Below.refl _ _)
    have any : (∃ v, ∀ w', (execOp a.eval o).run g.P w' = .ok (.value v) w') → RdB g (bOp a o) o a w κ r := fun ⟨v', hv'⟩ => by
      have e2 := hv' w
      rw [e1] at e2
      cases e2
      exact ⟨v, own', st', fun w' _ => hv' w', h2, h3⟩
    by_cases h0 : noMem0 o = true
    · exact ⟨v, own', st', fun w' _ => noMem_run h0 e1 w', h2, h3⟩
    · cases ho : o.op with
      | nilCheck x => exact any (nil_any h ho hκ)
      | fieldAddr e x f => exact any (field_any T h ho hκ)
      | move x => exact absurd (by simp [noMem0, ho]) h0
      | assign x => exact absurd (by simp [noMem0, ho]) h0
      | extract x i => exact absurd (by simp [noMem0, ho]) h0
      | _ => simp [noMem, ho] at hnm
  | false =>
  by_cases hl : ∃ e t, o.op = .load e (.tmp t)
  · obtain ⟨e, t, ho⟩ := hl
    obtain ⟨v', hv'⟩ := load_keeps ok T h ho hκ
    have e1 := h1 w (Below.refl _ _)
    have e2 := hv' w (fun _ _ _ _ _ => rfl)
    rw [e1] at e2
    cases e2
    refine ⟨v, own', st', fun w' hw' => hv' w' fun b off p hb hlt => hw'.same hlt ?_, h2, h3⟩
    refine ⟨hnm, ?_⟩
    intro e2 t2 ho2
    rw [ho] at ho2
    cases ho2
    exact ⟨off, p, hb⟩
  · exact ⟨v, own', st', fun w' hw' => h1 w' (hw'.below fun b => ⟨hnm, fun e t ho => absurd ⟨e, t, ho⟩ hl⟩), h2, h3⟩

theorem putCells_os (w : World) (b off : Nat) (cs : List Value) : (putCells w b off cs).os = w.os ∧ (putCells w b off cs).tape = w.tape ∧ (putCells w b off cs).output = w.output := ⟨rfl, rfl, rfl⟩

def DoK (g : Gl S) (ops : Array Oper) (o : Oper) (a : Act) (w : World) (κ : ST S → Option α) (r : α) : Prop :=
  ∀ Q : Exit → Act → World → Prop, o.wp g.P a w (fun a' w' => ∃ own' st', Rel g own' st' a' w' ∧ κ st' = some r ∧ a'.tmps.size = a.tmps.size ∧ Keeps (kOp g.E ops a o) w w') Q

theorem store_keeps {ops : Array Oper} {o : Oper} {e : TypeId} {x y : Operand} {hn : Hint} {κ : ST S → Option α} {r : α} (ok : S.Ok) (T : TysOk g.P g.E) (h : Rel g own st a w) 
    (ho : o.op = .store e x y) (hκ : opK g.E hn o st κ = some r) : DoK g ops o a w κ r := by
  simp only [opK, ho] at hκ
  split at hκ
  · rename_i c st' e1 e2
    obtain ⟨own', cs, h1, hVS, hO, hL, hl⟩ := take_ok ok g.E h e2 []
    have hv := av_ok g.E h1 x 0 0
    split at hκ
    · rename_i rt p ex
      rw [ex] at hv
      obtain ⟨b, off, cs0, c0, hp, v1⟩ := hv
      split at hκ
      · rename_i ht
        split at hκ
        · rename_i st'' e3
          obtain ⟨⟨cur, ee, hblk⟩, own'', hrel⟩ := h1.store ok hp hO e3
          have hcells : (a.eval y).cells = cs.toArray := VS_list hVS (OW_one hO hl)
          have tf := T _ _ (Env.is_lookup ht)
          have hlen : cs.length = S.size c.t := OW_len ok _ _ _ _ _ hO
          obtain ⟨_, hcs0⟩ := hp.cells ok h1
          have hfit : off + 0 + cs.length ≤ cur.size := by
            have hc0 := hcs0 b off rfl
            obtain ⟨t, m, xx, n, z, s1, s2, s3⟩ := setAt_some e3
            have ht0 : c0.t = c.t := by
              obtain ⟨t0, m0, x0, l0, csr, k1, k2, k3, k4, k5, k6⟩ := hp
              have hroot : (st'.killS rt p).root rt = st'.root rt := root_killS st' rt p rt
              rw [hroot, k1] at s1
              cases s1
              exact do_store.setP_type _ _ _ _ _ _ () s2 k6
            rw [ht0] at hc0
            unfold cellsAt at hc0
            rw [hblk] at hc0
            simp only at hc0
            split at hc0
            · omega
            · cases hc0
          have hrun := run_storeCells_at (P := g.P) b off ee cs 0 cur w hblk hfit (OW_one hO hl)
          rw [Nat.add_zero, setRow_putCells hblk] at hrun
          intro Q
          unfold Oper.wp
          have : (execOp a.eval o).run g.P w = .ok .skip (putCells w b off cs) := by
            simp only [execOp, ho, v1, Instr.storeAt, Instr.sureAddr, storeVar, pure_bind, Sem.run_bind, tf.size w, Result.andThen_ok, hcells]
            rw [if_neg (by rw [List.size_toArray, hlen]; simp)]
            simp only [hrun, Result.andThen_ok]
            rfl
          rw [this]
          refine ⟨own'', st'', ?_, hκ, by rw [e1]; rfl, ?_⟩
          · rw [e1]
            exact hrel
          · obtain ⟨q1, q2, q3⟩ := putCells_os w b off cs
            refine ⟨q1, q2, q3, fun b' x' hk hx => ?_⟩
            refine (putCells_ne ?_).trans hx
            rcases hk with hk | ⟨e', t', y', k1, k2, k3⟩
            · simp [keepsOp, ho] at hk
            · rw [ho] at k1
              cases k1
              exact k3 b off none v1
        · cases hκ
      · cases hκ
    · cases hκ
  · cases hκ

theorem op_doK {ops : Array Oper} {o : Oper} {hn : Hint} {κ : ST S → Option α} {r : α} (ok : S.Ok) (T : TysOk g.P g.E) (hfs : ∀ f F, g.E.fs f = some F → FnOk g.P F f) (hpin : ∀ d, d < a.tmps.size → g.pin d = none) (h : Rel g own st a w) (hd : ∀ d, o.dst = some d → d < a.tmps.size)
    (hκ : opK g.E hn o st κ = some r) : DoK g ops o a w κ r := by
  by_cases hs : ∃ e x y, o.op = .store e x y
  · obtain ⟨e, x, y, ho⟩ := hs
    exact store_keeps ok T h ho hκ
  · intro Q
    refine Oper.wp_mono (fun a' w' ⟨own', st', h1, h2, h3, h4⟩ => ⟨own', st', h1, h2, h3, ?_⟩) (op_do ok T hfs hpin h hd hκ Q)
    cases hk : keepsOp g.E o with
    | true => exact .of_below (h4 hk)
    | false =>
      -- what neither keeps all nor stores: of its blocks nothing is said
      refine ⟨h1.os.trans h.os.symm, h1.tape.trans h.tape.symm, h1.output.trans h.output.symm, fun b x hb _ => ?_⟩
      rcases hb with hb | ⟨e, t, y, ho, _⟩
      · rw [hk] at hb; cases hb
      · exact absurd ⟨e, _, y, ho⟩ hs

theorem rdB_yields {B : Nat → Prop} {ops : Array Oper} {o : Oper} {κ : ST S → Option α} {r : α} (h : RdB g B o a w κ r) (hw : Region.wanted o (yielded ops a.tmps) = true) :
    ∃ v own' st', YieldsIf g.P ops (Keeps B w) o v a ∧ Rel g own' st' (a.put o.dst v) w ∧ κ st' = some r := by
  obtain ⟨v, own', st', h1, h2, h3⟩ := h
  exact ⟨v, own', st', .inl ⟨hw, h1⟩, h2, h3⟩

/-- Two addresses of different memories. -/
def SepAt (ops : Array Oper) (ps : List (Nat × Nat)) (a : Act) : Prop := ∀ t t', (t, t') ∈ ps → ∀ b off p b' off' p', a.tmps.getD t undef = .pointer (some ⟨b, off, p⟩) → a.tmps.getD t' undef = .pointer (some ⟨b', off', p'⟩) → b ≠ b'

/-! ### A tree of orders -/
def OT.sz : OT → Nat
  | .done => 1
  | .step _ t => t.sz + 1
  | .both t u => t.sz + u.sz + 1
def OT.heads : OT → List (Nat × OT)
  | .done => []
  | .step i t => [(i, t)]
  | .both t u => t.heads ++ u.heads
mutual
def okT (E : Env S) (ops : Array Oper) : OT → Nat → Array Bool → Bool
  | .done, n, listed => Nat.beq n 0 && (Region.ready .any ops listed).isEmpty
  | .step i t, n, listed => stepOk E ops [] i listed && Nat.ble 1 n && okT E ops t (n - 1) (listed.setIfInBounds i true)
  | .both t u, n, listed => Nat.ble 1 n && !(Region.ready .any ops listed).isEmpty && (Region.ready .any ops listed).all (fun j => (OT.both t u).heads.any (·.1 == j)) && brT E ops t n listed && brT E ops u n listed
def brT (E : Env S) (ops : Array Oper) : OT → Nat → Array Bool → Bool
  | .done, _, _ => false
  | .step i t, n, listed => okT E ops t (n - 1) (listed.setIfInBounds i true)
  | .both t u, n, listed => brT E ops t n listed && brT E ops u n listed
end

theorem one_step {ops : Array Oper} {hn : Hint} {r : α} {n : Nat} {Q : Exit → Act → World → Prop} (ok : S.Ok) (T : TysOk g.P g.E) (hfs : ∀ f F, g.E.fs f = some F → FnOk g.P F f)
    (hpin : ∀ d, d < n → g.pin d = none) (hall : ∀ (o : Oper), o ∈ ops.toList → ∀ d, o.dst = some d → d < n) {i : Nat} {o : Oper} (hi : ops[i]? = some o) {listed : Array Bool} {fuel : Nat} {κ' : ST S → Option α}
    {own : Nat → Option Own} {st : ST S} {a : Act} {w : World} (h : Rel g own st a w) (hsz : a.tmps.size = n) (hκ : guardK g.E hn ops.toList o st κ' = some r)
    (next : ∀ own' st' a' w', Fix ops a a' → Rel g own' st' a' w' → a'.tmps.size = n → κ' st' = some r → wpAnyK g.P g.E .any ops Q fuel (listed.setIfInBounds i true) a' w') :
    wpOp g.P ops Q i (fun a' w' => (∀ o, ops[i]? = some o → Keeps (kOp g.E ops a o) w w') ∧ wpAnyK g.P g.E .any ops Q fuel (listed.setIfInBounds i true) a' w') a w := by
  have hom : o ∈ ops.toList := List.mem_of_getElem? (by simpa using hi : ops.toList[i]? = some o)
  have hd : ∀ d, o.dst = some d → d < a.tmps.size := fun d hd => by rw [hsz]; exact hall o hom d hd
  have hstep := guard_step h (fun o ho d hd => by rw [hsz]; exact hall o ho d hd) hd hκ
  unfold wpOp
  simp only [hi]
  rcases hstep with ⟨hw, st1, h1, h2⟩ | ⟨hw, st1, h1, h2⟩
  · rw [if_pos hw]
    refine .inl (Oper.wp_mono ?_ (opwp_fix hi (op_doK (ops := ops) ok T hfs (by rw [hsz]; exact hpin) h1 hd h2 Q)))
    rintro a' w' ⟨k0, own', st', k1, k2, k3, k4⟩
    exact ⟨fun o' ho' => by cases ho'; exact k4, next own' st' a' w' k0 k1 (k3.trans hsz) k2⟩
  · rw [if_neg (by rw [hw]; simp)]
    exact ⟨fun _ _ => Keeps.refl _ _, next own st1 _ w (.put hi a _) h1 (tmps_put_size.trans hsz) h2⟩

theorem any_step {ops : Array Oper} {hn : Hint} {r : α} {n : Nat} {Q : Exit → Act → World → Prop} {ps : List (Nat × Nat)} (ok : S.Ok) (T : TysOk g.P g.E) (hfs : ∀ f F, g.E.fs f = some F → FnOk g.P F f)
    (hpin : ∀ d, d < n → g.pin d = none) (hall : ∀ (o : Oper), o ∈ ops.toList → ∀ d, o.dst = some d → d < n) (hs : Region.noSelect ops = true) (hQp : ∀ c a w, ¬ Q (.panic c) a w)
    {a0 : Act} (hsep : SepAt ops ps a0) {i : Nat} {o : Oper} (hi : ops[i]? = some o) {listed : Array Bool} (hord1 : stepOk g.E ops ps i listed = true) {fuel : Nat} {κ' : ST S → Option α}
    {own : Nat → Option Own} {st : ST S} {a : Act} {w : World} (hfx : Fix ops a0 a) (h : Rel g own st a w) (hsz : a.tmps.size = n) (hκ : guardK g.E hn ops.toList o st κ' = some r)
    (next : ∀ own' st' a' w', Fix ops a a' → Rel g own' st' a' w' → a'.tmps.size = n → κ' st' = some r → wpAnyK g.P g.E .any ops Q fuel (listed.setIfInBounds i true) a' w') :
    wpAnyK g.P g.E .any ops Q (fuel + 1) listed a w := by
  unfold stepOk at hord1
  split at hord1
  · rename_i j e
    have hij : i = j := by simpa using hord1
    subst hij
    refine ⟨(fun h0 => by rw [h0] at e; cases e), fun i' hi2 => ?_⟩
    rw [e] at hi2
    have : i' = i := by simpa using hi2
    subst this
    exact one_step ok T hfs hpin hall hi h hsz hκ next
  · simp only [Bool.and_eq_true] at hord1
    obtain ⟨⟨⟨hc, hr⟩, hf⟩, hk0⟩ := hord1
    obtain ⟨W, hW, hk⟩ : ∃ W, Waits .any ops i W ∧ freeFor g.E ops ps W i listed = true := by
      rw [Bool.or_eq_true] at hk0
      rcases hk0 with hk0 | hk0
      · exact ⟨[], (fun j hj => by cases hj), hk0⟩
      · exact ⟨_, waitsGo_ok _ _ (fun j hj => by cases hj), hk0⟩
    simp only [freeFor, Bool.and_eq_true] at hk
    obtain ⟨hWl, hk⟩ := hk
    have hWl : ∀ j ∈ W, listed.getD j true = false := fun j hj => by
      have := List.all_eq_true.1 hWl j hj
      simpa using this
    have hmem : i ∈ Region.ready .any ops listed := by simpa using hc
    rw [hi] at hr
    have hom : o ∈ ops.toList := List.mem_of_getElem? (by simpa using hi : ops.toList[i]? = some o)
    have hd : ∀ d, o.dst = some d → d < a.tmps.size := fun d hd => by rw [hsz]; exact hall o hom d hd
    have hstep := guard_step h (fun o ho d hd => by rw [hsz]; exact hall o ho d hd) hd hκ
    have hkeep : ∀ j oj, ops[j]? = some oj → j ≠ i → listed.getD j true = false → j ∉ W → (∀ e ∈ oj.after, Region.binds .any e = true → e.on ≠ i) → o.apart ops oj = true ∧ ∀ b, bOp a o b → kOp g.E ops a oj b := fun j oj hj hji hun hjW hno => by
      refine ⟨Region.free_spec hi hf j oj hj hji hun hno, ?_⟩
      rw [List.all_eq_true] at hk
      have := hk j (List.mem_range.2 (Array.getElem?_eq_some_iff.1 hj).1)
      simp only [hj, hi, Bool.or_eq_true, beq_iff_eq, hji, false_or, hun, Bool.false_eq_true, List.contains_iff_mem, hjW, or_false] at this
      rcases this with (h1 | h1) | h1
      · obtain ⟨e, he, hb⟩ := Array.any_eq_true'.1 h1
        simp only [Bool.and_eq_true, beq_iff_eq] at hb
        exact absurd hb.2 (hno e he hb.1)
      · exact fun b _ => .inl h1
      · rcases h1 with h1 | h1
        · intro b hb
          rw [hb.1] at h1; cases h1
        intro b hb
        have hb := hb.2
        unfold sepOp at h1
        split at h1
        · rename_i e t ho
          split at h1
          · rename_i e' t' y hoj
            simp only [Bool.and_eq_true] at h1
            obtain ⟨⟨f1, f2⟩, f3⟩ := h1
            refine .inr ⟨e', t', y, hoj, f2, fun b' off' p' hp' => ?_⟩
            obtain ⟨off, p, hp⟩ := hb e t ho
            exact hsep t t' (by simpa using f3) b off p b' off' p' ((hfx t f1).symm.trans hp) ((hfx t' f2).symm.trans hp')
          · cases h1
        · cases h1
    have fin : ∀ v own' st', YieldsIf g.P ops (Keeps (bOp a o) w) o v a → Rel g own' st' (a.put o.dst v) w → κ' st' = some r → wpAnyK g.P g.E .any ops Q (fuel + 1) listed a w := fun v own' st' hy hrel hκ' =>
      wpAnyK_first hW hi (Region.noSelect_spec hs) (fun c a w hp => absurd hp (hQp c _ w)) fuel listed a w hWl hkeep hmem hy (next own' st' _ w (.put hi a v) hrel (tmps_put_size.trans hsz) hκ')
    rcases hstep with ⟨hw, st1, h1, h2⟩ | ⟨hw, st1, h1, h2⟩
    · obtain ⟨v, own', st', k1, k2, k3⟩ := rdB_yields (op_rdB ok T h1 hd hr h2) hw
      exact fin v own' st' k1 k2 k3
    · exact fin undef own st1 (.inr ⟨hw, rfl⟩) h1 h2

theorem region_any {ops : Array Oper} {hn : Hint} {κ : ST S → Option α} {r : α} {n : Nat} {Q : Exit → Act → World → Prop} {ps : List (Nat × Nat)} (ok : S.Ok) (T : TysOk g.P g.E) (hfs : ∀ f F, g.E.fs f = some F → FnOk g.P F f)
    (hpin : ∀ d, d < n → g.pin d = none) (hall : ∀ (o : Oper), o ∈ ops.toList → ∀ d, o.dst = some d → d < n) (hs : Region.noSelect ops = true) (hQp : ∀ c a w, ¬ Q (.panic c) a w)
    (hQ : ∀ own st a w, Rel g own st a w → κ st = some r → a.tmps.size = n → Q .normal a w) (a0 : Act) (hsep : SepAt ops ps a0) :
    ∀ (l : List Nat) (listed : Array Bool) (own : Nat → Option Own) (st : ST S) (a : Act) (w : World), Fix ops a0 a → okOrd g.E ops ps l listed = true → Rel g own st a w → a.tmps.size = n →
      opsK g.E hn ops.toList (l.filterMap (ops.toList[·]?)) st κ = some r →
      wpAnyK g.P g.E .any ops Q l.length listed a w := by
  intro l
  induction l with
  | nil =>
    intro listed own st a w hfx hord h hsz hκ
    exact ⟨by simpa [okOrd] using hord, hQ own st a w h hκ hsz⟩
  | cons i l ih =>
    intro listed own st a w hfx hord h hsz hκ
    simp only [okOrd, Bool.and_eq_true] at hord
    obtain ⟨hord1, hord2⟩ := hord
    have hmem : i ∈ Region.ready .any ops listed := by
      unfold stepOk at hord1
      split at hord1
      · rename_i j e; rw [e]; simpa using hord1
      · simp only [Bool.and_eq_true] at hord1; simpa using hord1.1.1.1
    obtain ⟨_, o, hi, _⟩ := mem_ready.1 hmem
    have hi' : ops.toList[i]? = some o := by simpa using hi
    rw [List.filterMap_cons, hi'] at hκ
    simp only [opsK] at hκ
    exact any_step ok T hfs hpin hall hs hQp hsep hi hord1 hfx h hsz hκ (fun own' st' a' w' k0 k1 k2 k3 => ih _ own' st' a' w' (hfx.trans k0) hord2 k1 k2 k3)

/-- Each head of a tree is a way that the tree's end holds for. -/
theorem heads_some {ops : Array Oper} {hn : Hint} {κ : ST S → Option α} {r : α} {st : ST S} {n : Nat} {listed : Array Bool} : ∀ (t : OT), brT g.E ops t n listed = true → treeK g.E hn ops.toList t st κ = some r → ∀ j t', (j, t') ∈ t.heads →
    okT g.E ops t' (n - 1) (listed.setIfInBounds j true) = true ∧ ∃ o, ops[j]? = some o ∧ guardK g.E hn ops.toList o st (fun st' => treeK g.E hn ops.toList t' st' κ) = some r := by
  intro t
  induction t with
  | done => intro h; cases h
  | step i t ih =>
    intro h hk j t' hm
    simp only [OT.heads, List.mem_singleton, Prod.mk.injEq] at hm
    obtain ⟨rfl, rfl⟩ := hm
    refine ⟨h, ?_⟩
    simp only [treeK] at hk
    split at hk
    · rename_i o ho
      exact ⟨o, by simpa using ho, hk⟩
    · cases hk
  | both t u iht ihu =>
    intro h hk j t' hm
    simp only [brT, Bool.and_eq_true] at h
    simp only [treeK] at hk
    obtain ⟨k1, k2⟩ := meetK_some hk
    simp only [OT.heads, List.mem_append] at hm
    rcases hm with hm | hm
    · exact iht h.1 k1 j t' hm
    · exact ihu h.2 k2 j t' hm
theorem heads_size : ∀ (t : OT) (j : Nat) (t' : OT), (j, t') ∈ t.heads → OT.sz t' < OT.sz t := by
  intro t
  induction t with
  | done => intro j t' h; cases h
  | step i t ih =>
    intro j t' h
    simp only [OT.heads, List.mem_singleton, Prod.mk.injEq] at h
    obtain ⟨rfl, rfl⟩ := h
    simp [OT.sz]
  | both t u iht ihu =>
    intro j t' h
    simp only [OT.heads, List.mem_append] at h
    rcases h with h | h
    · have := iht j t' h; simp only [OT.sz]; omega
    · have := ihu j t' h; simp only [OT.sz]; omega

theorem region_tree {ops : Array Oper} {hn : Hint} {κ : ST S → Option α} {r : α} {n : Nat} {Q : Exit → Act → World → Prop} (ok : S.Ok) (T : TysOk g.P g.E) (hfs : ∀ f F, g.E.fs f = some F → FnOk g.P F f)
    (hpin : ∀ d, d < n → g.pin d = none) (hall : ∀ (o : Oper), o ∈ ops.toList → ∀ d, o.dst = some d → d < n) (hs : Region.noSelect ops = true) (hQp : ∀ c a w, ¬ Q (.panic c) a w)
    (hQ : ∀ own st a w, Rel g own st a w → κ st = some r → a.tmps.size = n → Q .normal a w) :
    ∀ (z : Nat) (t : OT), OT.sz t ≤ z → ∀ (m : Nat) (listed : Array Bool) (own : Nat → Option Own) (st : ST S) (a : Act) (w : World), okT g.E ops t m listed = true → Rel g own st a w → a.tmps.size = n →
      treeK g.E hn ops.toList t st κ = some r → wpAnyK g.P g.E .any ops Q m listed a w := by
  intro z
  induction z with
  | zero => intro t ht; cases t <;> simp [OT.sz] at ht
  | succ z ih =>
    intro t ht m listed own st a w hok h hsz hκ
    cases t with
    | done =>
      simp only [okT, Bool.and_eq_true] at hok
      have := Nat.eq_of_beq_eq_true hok.1
      subst this
      exact ⟨by simpa using hok.2, hQ own st a w h hκ hsz⟩
    | step i t =>
      simp only [okT, Bool.and_eq_true] at hok
      obtain ⟨⟨h1, h2⟩, h3⟩ := hok
      obtain ⟨m', rfl⟩ : ∃ m', m = m' + 1 := ⟨m - 1, by have := Nat.le_of_ble_eq_true h2; omega⟩
      simp only [treeK] at hκ
      split at hκ
      · rename_i o ho
        refine any_step (ps := []) (a0 := a) ok T hfs hpin hall hs hQp (fun _ _ h => by cases h) (by simpa using ho) h1 (.refl _ _) h hsz hκ (fun own' st' a' w' _ k1 k2 k3 => ?_)
        exact ih t (by simp only [OT.sz] at ht; omega) m' _ own' st' a' w' h3 k1 k2 k3
      · cases hκ
    | both t u =>
      have hb : brT g.E ops (.both t u) m listed = true := by
        simp only [okT, Bool.and_eq_true] at hok
        simp only [brT, Bool.and_eq_true]; exact ⟨hok.1.2, hok.2⟩
      simp only [okT, Bool.and_eq_true] at hok
      obtain ⟨⟨⟨⟨h2, hne⟩, hcov⟩, _⟩, _⟩ := hok
      obtain ⟨m', rfl⟩ : ∃ m', m = m' + 1 := ⟨m - 1, by have := Nat.le_of_ble_eq_true h2; omega⟩
      have hcov' : ∀ j ∈ Region.ready .any ops listed, ∃ t', (j, t') ∈ (OT.both t u).heads := fun j hj => by
        have := List.all_eq_true.1 hcov j hj
        obtain ⟨⟨j', t'⟩, hm, e⟩ := List.any_eq_true.1 this
        have : j' = j := by simpa using e
        subst this
        exact ⟨t', hm⟩
      refine ⟨fun h0 => (by rw [h0] at hne; cases hne), fun j hj => ?_⟩
      · obtain ⟨t', hm⟩ := hcov' j hj
        obtain ⟨hok', o, ho, hg⟩ := heads_some (hn := hn) (κ := κ) (r := r) (st := st) _ hb hκ j t' hm
        refine one_step ok T hfs hpin hall ho h hsz hg (fun own' st' a' w' _ k1 k2 k3 => ?_)
        exact ih t' (by have := heads_size _ j t' hm; omega) m' _ own' st' a' w' hok' k1 k2 k3

theorem region_list {ops : Array Oper} {hn : Hint} {κ : ST S → Option α} {r : α} {n : Nat} {Q : Exit → Act → World → Prop} (ok : S.Ok) (T : TysOk g.P g.E) (hfs : ∀ f F, g.E.fs f = some F → FnOk g.P F f)
    (hpin : ∀ d, d < n → g.pin d = none) (hall : ∀ (o : Oper), o ∈ ops.toList → ∀ d, o.dst = some d → d < n)
    (hQ : ∀ own st a w, Rel g own st a w → κ st = some r → a.tmps.size = n → Q .normal a w) :
    ∀ (l : List Nat) (own : Nat → Option Own) (st : ST S) (a : Act) (w : World), Rel g own st a w → a.tmps.size = n →
      opsK g.E hn ops.toList (l.filterMap (ops.toList[·]?)) st κ = some r → wpOps g.P ops Q l a w := by
  intro l
  induction l with
  | nil => intro own st a w h hsz hκ; exact hQ own st a w h hκ hsz
  | cons i l ih =>
    intro own st a w h hsz hκ
    simp only [wpOps]
    cases hi : ops[i]? with
    | none =>
      have hi' : ops.toList[i]? = none := by simpa using hi
      rw [List.filterMap_cons, hi'] at hκ
      exact ih own st a w h hsz hκ
    | some o =>
      have hi' : ops.toList[i]? = some o := by simpa using hi
      rw [List.filterMap_cons, hi'] at hκ
      simp only [opsK] at hκ
      have hom : o ∈ ops.toList := List.mem_of_getElem? hi'
      have hd : ∀ d, o.dst = some d → d < a.tmps.size := fun d hd => by rw [hsz]; exact hall o hom d hd
      have hstep := guard_step h (fun o ho d hd => by rw [hsz]; exact hall o ho d hd) hd hκ
      rcases hstep with ⟨hw, st1, h1, h2⟩ | ⟨hw, st1, h1, h2⟩
      · simp only [hw, if_true]
        refine .inl (Oper.wp_mono ?_ (op_do ok T hfs (by rw [hsz]; exact hpin) h1 hd h2 Q))
        rintro a' w' ⟨own', st', k1, k2, k3, k4⟩
        exact ih own' st' a' w' k1 (k3.trans hsz) k2
      · simp only [hw, Bool.false_eq_true, if_false]
        exact ih own st1 _ w h1 (tmps_put_size.trans hsz) h2
end
end Go.Proofs.YtpmlimdilajidaaDoor.Vm
namespace Go.Proofs.YtpmlimdilajidaaDoor.Vm
open Go Go.RowKit
set_option linter.unusedVariables false

section
variable {S : Cx} {α : Type}
variable {g : Gl S} {own : Nat → Option Own} {st : ST S} {a : Act} {w : World}

/-- Less is known. -/
theorem Rel.weaken (h : Rel g own st a w) {st' : ST S} (hl : ∀ i, st'.look i = .dead ∨ (st'.look i = st.look i ∧ ∀ r p, (st.look i = .ref r p ∨ st.look i = .addr r p) → st'.root r = st.root r))
    (hm : ∀ k c, st'.mems.lookup k = some c → st.mems.lookup k = some c) : Rel g own st' a w := by
  refine ⟨h.os, h.tape, h.output, h.size, h.block, h.fresh, fun i => ?_, fun k c hk => h.mems k c (hm k c hk), h.defs, h.pins⟩
  rcases hl i with e | ⟨e, hr⟩
  · rw [e]; trivial
  · rw [e]
    have hv := h.vals i
    generalize st.look i = A at *
    cases A with
    | dead => trivial
    | und => exact hv
    | v t m y => exact hv
    | tup t m y => exact hv
    | rp t y => exact hv
    | ref r p =>
      obtain ⟨l, cs, c, h1, h2⟩ := hv
      exact ⟨l, cs, c, Place_of h1 (hr r p (.inl rfl)) (fun _ _ => rfl), h2⟩
    | addr r p =>
      obtain ⟨b, off, cs, c, h1, h2⟩ := hv
      exact ⟨b, off, cs, c, Place_of h1 (hr r p (.inr rfl)) (fun _ _ => rfl), h2⟩

theorem lookup_map {β γ : Type} (f : β → γ) : ∀ (l : List (Nat × β)) (i : Nat), (l.map fun x => (x.1, f x.2)).lookup i = (l.lookup i).map f
  | [], _ => rfl
  | (k, b) :: l, i => by
    simp only [List.map_cons, List.lookup_cons]
    cases i == k
    · exact lookup_map f l i
    · rfl

theorem based_cases (f : Root → Bool) (x : AV S) : x.based f = .dead ∨ (x.based f = x ∧ ∀ r p, (x = .ref r p ∨ x = .addr r p) → f r = true) := by
  cases x with
  | ref r p =>
    cases hf : f r
    · exact .inl (by simp only [AVal.based, hf])
    · refine .inr ⟨by simp only [AVal.based, hf], fun r' p' h => ?_⟩
      rcases h with h | h <;> cases h
      exact hf
  | addr r p =>
    cases hf : f r
    · exact .inl (by simp only [AVal.based, hf])
    · refine .inr ⟨by simp only [AVal.based, hf], fun r' p' h => ?_⟩
      rcases h with h | h <;> cases h
      exact hf
  | _ => exact .inr ⟨rfl, fun r p h => by rcases h with h | h <;> cases h⟩
theorem based_v {f : Root → Bool} {t : Ty} {m : Mode} {y : S.den t} : (AVal.v t m y : AV S).based f = .v t m y := rfl
theorem based_notv {f : Root → Bool} {x : AV S} {t : Ty} {m : Mode} {y : S.den t} (h : x.based f = .v t m y) : x = .v t m y := by
  rcases based_cases f x with e | ⟨e, _⟩
  · rw [e] at h; cases h
  · rw [e] at h; exact h

/-- A root is seen in another state if the slot there is 'based' the same. -/
theorem root_based {st' : ST S} {f : Root → Bool} {s : Nat} (h : st'.look s = (st.look s).based f) : st'.root (.slot s) = st.root (.slot s) := by
  simp only [St.root, h]
  cases e : st.look s with
  | v t m x => rfl
  | dead => rfl
  | und => rfl
  | tup t m x => rfl
  | rp t x => rfl
  | ref r p => cases hf : f r <;> simp only [AVal.based, hf]
  | addr r p => cases hf : f r <;> simp only [AVal.based, hf]

theorem Rel.clear (h : Rel g own st a w) : Rel g own st.clear a w := by
  have hlook : ∀ i, st.clear.look i = match st.vars.lookup i with | some x => x.based st.inVars | none => .dead := fun i => by
    have e : st.clear.vars.lookup i = (st.vars.lookup i).map (·.based st.inVars) := lookup_map _ _ _
    simp only [St.look, e]
    cases st.vars.lookup i <;> rfl
  have hst : ∀ i x, st.vars.lookup i = some x → st.look i = x := fun i x hx => by simp only [St.look, hx]
  refine h.weaken (fun i => ?_) (fun k c hk => hk)
  rw [hlook]
  cases hx : st.vars.lookup i with
  | none => exact .inl rfl
  | some x =>
    rcases based_cases st.inVars x with e | ⟨e, hr⟩
    · exact .inl e
    · refine .inr ⟨by rw [hst i x hx]; exact e, fun r p hrp => ?_⟩
      rw [hst i x hx] at hrp
      have := hr r p hrp
      cases r with
      | mem k => rfl
      | lim => cases this
      | slot s =>
        simp only [St.inVars] at this
        split at this
        · rename_i y hy
          exact root_based (f := st.inVars) (by rw [hlook, hy, hst s y hy])
        · cases this

theorem lookup_keys {β : Type} (f : Nat → β) : ∀ (l : List Nat) (i : Nat), (l.map fun i => (i, f i)).lookup i = if i ∈ l then some (f i) else none
  | [], _ => rfl
  | k :: l, i => by
    simp only [List.map_cons, List.lookup_cons]
    by_cases hk : i = k
    · subst hk; simp
    · have : (i == k) = false := by simpa using hk
      rw [this, lookup_keys f l i]
      simp [hk]
theorem lookup_fm {β : Type} (f : Nat → Option β) : ∀ (l : List Nat) (i : Nat) (c : β), (l.filterMap fun k => (f k).map (k, ·)).lookup i = some c → f i = some c
  | [], _, _, h => by cases h
  | k :: l, i, c, h => by
    rw [List.filterMap_cons] at h
    cases hf : f k with
    | none => rw [hf] at h; exact lookup_fm f l i c h
    | some b =>
      rw [hf] at h
      simp only [Option.map_some, List.lookup_cons] at h
      cases hk : i == k
      · rw [hk] at h; exact lookup_fm f l i c h
      · rw [hk] at h
        have : i = k := by simpa using hk
        cases h; subst this; exact hf
theorem lookup_fm' {β : Type} (f : Nat → Option β) : ∀ (l : List Nat) (i : Nat), i ∈ l → (l.filterMap fun k => (f k).map (k, ·)).lookup i = f i
  | [], _, h => by cases h
  | k :: l, i, h => by
    rw [List.filterMap_cons]
    by_cases hk : i = k
    · subst hk
      cases hf : f i with
      | none =>
        simp only [Option.map_none]
        cases hl : (l.filterMap fun k => (f k).map (k, ·)).lookup i with
        | none => rfl
        | some c => rw [lookup_fm f l i c hl] at hf; cases hf
      | some b => simp
    · have hb : (i == k) = false := by simpa using hk
      have hl : i ∈ l := by simpa [hk] using h
      cases hf : f k with
      | none => exact lookup_fm' f l i hl
      | some b =>
        simp only [Option.map_some, List.lookup_cons, hb]
        exact lookup_fm' f l i hl

theorem Rel.norm (h : Rel g own st a w) (c : List Nat × List Nat) : Rel g own (st.norm c) a w := by
  have hlook : ∀ i, (st.norm c).look i = if i ∈ c.1 then (st.look i).based (rootIn c) else .dead := fun i => by
    have e : (st.norm c).vars.lookup i = if i ∈ c.1 then some ((st.look i).based (rootIn c)) else none := lookup_keys _ _ _
    have e2 : (st.norm c).scr.lookup i = none := rfl
    simp only [St.look, e, e2]
    by_cases hi : i ∈ c.1 <;> simp [hi]
  refine h.weaken (fun i => ?_) (fun k c' hk => lookup_fm _ _ _ _ hk)
  rw [hlook]
  by_cases hi : i ∈ c.1
  · rw [if_pos hi]
    rcases based_cases (rootIn c) (st.look i) with e | ⟨e, hr⟩
    · exact .inl e
    · refine .inr ⟨e, fun r p hrp => ?_⟩
      have := hr r p hrp
      cases r with
      | lim => cases this
      | mem k =>
        have hk : k ∈ c.2 := by simpa [rootIn] using this
        exact lookup_fm' _ _ _ hk
      | slot s =>
        have hs : s ∈ c.1 := by simpa [rootIn] using this
        exact root_based (f := rootIn c) (by rw [hlook, if_pos hs])
  · rw [if_neg hi]; exact .inl rfl

theorem Rel.inn (h : Rel g own st a w) (hn : Hint) (c : Code) : Rel g own (hn.inn c st) a w := by
  unfold Hint.inn; split
  · exact h.norm _
  · exact h
theorem Rel.out (h : Rel g own st a w) (hn : Hint) (c : Code) : Rel g own (hn.out c st) a w := by
  unfold Hint.out; split
  · exact h.norm _
  · exact h

/-- What of a code is looked at once. -/
def ordOf (h : Hint) (id : Nat) (ops : Array Oper) : List Nat :=
  match h.ords.lookup id with
  | none => List.range ops.size
  | some l => l
def sepsOf (h : Hint) (id : Nat) : List (Nat × Nat) :=
  match h.ords.lookup id with
  | none => []
  | some _ => match h.seps.lookup id with
    | none => []
    | some ps => ps
theorem sepSt_ok {st : ST S} (h : Rel g own st a w) {ops : Array Oper} : ∀ ps, sepSt st ps = true → SepAt ops ps a := by
  intro ps
  induction ps with
  | nil => intro _ t t' ht; cases ht
  | cons q ps ih =>
    obtain ⟨q1, q2⟩ := q
    intro hs t t' ht
    simp only [sepSt] at hs
    split at hs
    · rename_i k e1
      split at hs
      · rename_i k' e2
        split at hs
        · cases hs
        · rename_i hk
          rcases List.mem_cons.1 ht with e | e
          · cases e
            have v1 := h.vals q1
            have v2 := h.vals q2
            rw [e1] at v1
            rw [e2] at v2
            intro b off p b' off' p' h1 h2
            obtain ⟨c1, o1, cs1, d1, hp1, hv1⟩ := v1
            obtain ⟨c2, o2, cs2, d2, hp2, hv2⟩ := v2
            rw [h1] at hv1
            rw [h2] at hv2
            obtain ⟨t1, m1, x1, l1, csr1, r1, r2, r3, r4, r5, r6⟩ := hp1
            obtain ⟨t2, m2, x2, l2, csr2, u1, u2, u3, u4, u5, u6⟩ := hp2
            simp only [nav_nil] at r5 u5
            obtain ⟨b1, eb1, cc1, z1, z2, z3, z4⟩ := r3
            obtain ⟨b2, eb2, cc2, y1, y2, y3, y4⟩ := u3
            have A1 : l1 = some (c1, o1) := (Prod.mk.inj (Option.some.inj r5)).1
            have A2 : l2 = some (c2, o2) := (Prod.mk.inj (Option.some.inj u5)).1
            rw [z1] at A1
            rw [y1] at A2
            have B1 := (Prod.mk.inj (Option.some.inj A1)).1
            have B2 := (Prod.mk.inj (Option.some.inj A2)).1
            injection hv1 with hv1
            injection hv2 with hv2
            have hv1 := Option.some.inj hv1
            have hv2 := Option.some.inj hv2
            injection hv1 with hv1
            injection hv2 with hv2
            rw [hv1, hv2, ← B1, ← B2]
            intro e
            rw [e] at z2
            rw [z2] at y2
            have := (Prod.mk.inj (Option.some.inj y2)).1
            injection this with this
            subst this
            simp at hk
          · exact ih hs t t' e
      · cases hs
    · cases hs
def codeOk (E : Env S) (h : Hint) (n : Nat) : Code → Bool
  | .region id ops draw => ops.toList.all (fun o => match o.dst with
      | some d => decide (d < n)
      | none => true) && Region.noSelect ops && match draw with
    | true => match h.trees.lookup id with
      | some t => okT E ops t ops.size (Array.replicate ops.size false)
      | none => okOrd E ops (sepsOf h id) (ordOf h id ops) (Array.replicate ops.size false) && (ordOf h id ops).length == ops.size
    | false => (h.ords.lookup id).isNone && (h.trees.lookup id).isNone
  | .seq a b => codeOk E h n a && codeOk E h n b
  | .cond _ a b => codeOk E h n a && codeOk E h n b
  | .block _ c => codeOk E h n c
  | .loop c => codeOk E h n c
  | _ => true

theorem range_take {β : Type} (l : List β) : ∀ n, n ≤ l.length → (List.range n).filterMap (l[·]?) = l.take n := by
  intro n
  induction n with
  | zero => intro _; simp
  | succ n ih =>
    intro h
    rw [List.range_succ, List.filterMap_append, ih (by omega), List.take_add_one]
    congr 1
theorem range_all {β : Type} (l : List β) : (List.range l.length).filterMap (l[·]?) = l := by
  rw [range_take l l.length (Nat.le_refl _), List.take_length]

theorem run_region {E : Env S} {h : Hint} {k id : Nat} {ops : Array Oper} {draw : Bool} {st : ST S} {κ : Exit → ST S → Option α} {r : α} (ht : h.trees.lookup id = none) (hr : run E h k (.region id ops draw) st κ = some r) :
    opsK E h ops.toList ((ordOf h id ops).filterMap (ops.toList[·]?)) st.clear (κ .normal) = some r ∧ sepSt st (sepsOf h id) = true := by
  simp only [run, ht] at hr
  unfold ordOf sepsOf
  split at hr
  · rename_i e
    rw [e]
    have := range_all ops.toList
    rw [Array.length_toList] at this
    simp only [this]
    exact ⟨hr, rfl⟩
  · rename_i l e
    rw [e]
    split at hr
    · rename_i e2; simp only [e2]; exact ⟨hr, rfl⟩
    · rename_i ps e2
      simp only [e2]
      split at hr
      · rename_i e3; exact ⟨hr, e3⟩
      · cases hr

theorem run_sound {hn : Hint} {k n : Nat} (ok : S.Ok) (T : TysOk g.P g.E) (hfs : ∀ f F, g.E.fs f = some F → FnOk g.P F f) (hmo : g.P.follows .mixedOrders = true) (hpin : ∀ d, d < n → g.pin d = none) :
    ∀ (c : Code) (st : ST S) (κ : Exit → ST S → Option α) (r : α) (own : Nat → Option Own) (a : Act) (w : World), codeOk g.E hn n c = true → Rel g own st a w → a.tmps.size = n →
      run g.E hn k c st κ = some r → c.wp g.P (QV g n κ r) a w := by
  intro c
  induction c with
  | skip => intro st κ r own a w _ h hsz hr; exact wp_skip ⟨own, st, h, hr, hsz⟩
  | region id ops draw =>
    intro st κ r own a w hc h hsz hr
    simp only [codeOk, Bool.and_eq_true] at hc
    obtain ⟨⟨hc1, hc2⟩, hc3⟩ := hc
    have hall : ∀ (o : Oper), o ∈ ops.toList → ∀ d, o.dst = some d → d < n := fun o ho d hd => by
      have := List.all_eq_true.1 hc1 o ho
      rw [hd] at this
      simpa using this
    have hQ : ∀ own st a w, Rel g own st a w → κ .normal st = some r → a.tmps.size = n → QV g n κ r .normal a w := fun own st a w h1 h2 h3 => ⟨own, st, h1, h2, h3⟩
    cases draw with
    | true =>
      refine wp_region_any hmo ?_
      simp only at hc3
      split at hc3
      · rename_i t ht
        simp only [run, ht] at hr
        exact wpAny_of_K _ _ _ _ (region_tree ok T hfs hpin hall hc2 (Q := QV g n κ r) (fun c a w h => h) hQ (OT.sz t) t (Nat.le_refl _) ops.size (Array.replicate ops.size false) own st.clear a { w with drawn := w.drawn + 1 } hc3 (h.clear.keep ⟨rfl, rfl, rfl, Nat.le_refl _, fun _ _ => rfl⟩) hsz hr)
      rename_i ht
      obtain ⟨hr2, hsp⟩ := run_region ht hr
      simp only [Bool.and_eq_true, beq_iff_eq] at hc3
      have := region_any ok T hfs hpin hall hc2 (Q := QV g n κ r) (fun c a w h => h) hQ a (sepSt_ok (ops := ops) h _ hsp) (ordOf hn id ops) (Array.replicate ops.size false) own st.clear a { w with drawn := w.drawn + 1 } (.refl _ _) hc3.1 (h.clear.keep ⟨rfl, rfl, rfl, Nat.le_refl _, fun _ _ => rfl⟩) hsz hr2
      rw [hc3.2] at this
      exact wpAny_of_K _ _ _ _ this
    | false =>
      refine wp_region ?_
      simp only [Bool.and_eq_true] at hc3
      have ht : hn.trees.lookup id = none := by
        cases e : hn.trees.lookup id with
        | none => rfl
        | some l => rw [e] at hc3; cases hc3.2
      obtain ⟨hr2, hsp⟩ := run_region ht hr
      have hord : ordOf hn id ops = List.range ops.size := by
        unfold ordOf
        cases e : hn.ords.lookup id with
        | none => rfl
        | some l => rw [e] at hc3; cases hc3.1
      rw [hord] at hr2
      exact region_list ok T hfs hpin hall hQ (List.range ops.size) own st.clear a w h.clear hsz hr2
  | seq x y ihx ihy =>
    intro st κ r own a w hc h hsz hr
    simp only [codeOk, Bool.and_eq_true] at hc
    simp only [run] at hr
    refine wp_seq (wp_mono (ihx st _ r own a w hc.1 h hsz hr) ?_)
    intro e a' w' hq
    cases e with
    | normal =>
      obtain ⟨own', st', h1, h2, h3⟩ := hq
      refine wp_mono (ihy _ _ r own' a' w' hc.2 (h1.inn hn y) h3 h2) ?_
      intro e a'' w'' hq
      cases e with
      | normal => obtain ⟨own'', st'', g1, g2, g3⟩ := hq; exact ⟨own'', _, g1.out hn y, g2, g3⟩
      | exit i => exact hq
      | ret => exact hq
      | goto i => exact hq
      | panic c => exact hq
      | outgrown => exact hq
    | exit i => exact hq
    | ret => exact hq
    | goto i => exact hq
    | panic c => exact hq
    | outgrown => exact hq
  | cond c x y ihx ihy =>
    intro st κ r own a w hc h hsz hr
    simp only [codeOk, Bool.and_eq_true] at hc
    simp only [run] at hr
    split at hr
    · rename_i b hb
      have hv := bool_ok ok g.E h hb
      have hr := ask_some hr
      cases b with
      | true => exact wp_cond_true hv (ihx st κ r own a w hc.1 h hsz hr)
      | false => exact wp_cond_false hv (ihy st κ r own a w hc.2 h hsz hr)
    · cases hr
  | block id c ih =>
    intro st κ r own a w hc h hsz hr
    simp only [run] at hr
    refine wp_block (wp_mono (ih st _ r own a w hc h hsz hr) ?_)
    intro e a' w' hq
    cases e with
    | exit i =>
      obtain ⟨own', st', h1, h2, h3⟩ := hq
      simp only [blockK] at h2
      simp only [Exit.inBlock]
      by_cases hi : i = id
      · subst hi
        simp only [beq_self_eq_true] at h2
        rw [if_pos rfl]
        exact ⟨own', st', h1, h2, h3⟩
      · have : (i == id) = false := by simpa using hi
        rw [this] at h2
        rw [if_neg hi]
        exact ⟨own', st', h1, h2, h3⟩
    | normal => exact hq
    | ret => exact hq
    | goto i => exact hq
    | panic c => exact hq
    | outgrown => exact hq
  | loop c ih =>
    intro st κ r own a w hc h hsz hr
    simp only [run] at hr
    have key : ∀ (m : Nat) (st : ST S) (own : Nat → Option Own) (a : Act) (w : World), Rel g own st a w → a.tmps.size = n → loopK (run g.E hn k c) (hn.inn c) κ m st = some r → Code.rounds g.P c (QV g n κ r) m a w := by
      intro m
      induction m with
      | zero => intro st own a w h hsz hr; cases hr
      | succ m ihm =>
        intro st own a w h hsz hr
        simp only [loopK] at hr
        rw [rounds_succ]
        refine wp_mono (ih st _ r own a w hc h hsz hr) ?_
        intro e a' w' hq
        cases e with
        | normal =>
          obtain ⟨own', st', h1, h2, h3⟩ := hq
          exact ihm _ own' a' w' (h1.inn hn c) h3 h2
        | exit i => exact hq
        | ret => exact hq
        | goto i => exact hq
        | panic c => exact hq
        | outgrown => exact hq
    exact wp_loop_rounds k (key k _ own a w (h.inn hn c) hsz hr)
  | exit id =>
    intro st κ r own a w hc h hsz hr
    simp only [run] at hr
    refine wp_exit ?_
    split at hr
    · exact ⟨own, _, h.norm _, hr, hsz⟩
    · exact ⟨own, st, h, hr, hsz⟩
  | ret =>
    intro st κ r own a w hc h hsz hr
    simp only [run] at hr
    exact wp_ret ⟨own, _, h.norm _, hr, hsz⟩
  | _ => intros; rename_i hr; simp only [run] at hr; cases hr
end
end Go.Proofs.YtpmlimdilajidaaDoor.Vm
namespace Go.Proofs.YtpmlimdilajidaaDoor.Vm
open Go Go.RowKit
set_option linter.unusedVariables false

section
variable {S : Cx} {α : Type}
variable {g : Gl S} {own : Nat → Option Own} {st : ST S} {a : Act} {w : World}

/-- What a result's variable holds in the end. -/
def RvRun (P : Program) (tmps : Array Value) (w : World) : ResultVar → Value → Prop
  | .tmp i, v => v = tmps.getD i undef
  | .cell i t, v => (do loadVar t (← asAddr (tmps.getD i undef)) : Sem Value).run P w = .ok v w

theorem resOne0_ok (ok : S.Ok) (T : TysOk g.P g.E) (h : Rel g own st a w) {rv : ResultVar} {t : Ty} {m : Mode} {x : S.den t} {st' : ST S} (hr : resOne0 g.E rv t m st = some (x, st')) :
    ∃ v own' cs, RvRun g.P a.tmps w rv v ∧ Rel g own' st' a w ∧ Lasts own own' ∧ VS t v cs ∧ S.OW w own' (g.Z own' w) .lim t m [] cs x := by
  unfold resOne0 at hr
  split at hr
  · rename_i i
    split at hr
    · split at hr
      · rename_i c st1 hc
        split at hr
        · rename_i y hy
          cases hr
          obtain ⟨own', cs, h1, h2, h3, h4, h5⟩ := frzR_ok ok g.E h hc
          obtain ⟨ht, rfl⟩ := cast_some hy
          obtain ⟨ct, cm, cx⟩ := c
          simp only at ht h2 h4
          subst ht
          exact ⟨_, own', cs, rfl, h1, h5, h2, OW_ro.2 h4⟩
        · cases hr
      · cases hr
    · split at hr
      · rename_i c st1 hc
        split at hr
        · rename_i hm _
          split at hr
          · rename_i y hy
            cases hr
            obtain ⟨own', cs, h1, h2, h3, h4, h5⟩ := take_ok ok g.E h hc []
            obtain ⟨ht, rfl⟩ := cast_some hy
            obtain ⟨ct, cm, cx⟩ := c
            simp only at ht hm h2 h3
            subst ht
            subst hm
            exact ⟨_, own', cs, rfl, h1, h4, h2, h3⟩
          · cases hr
        · cases hr
      · cases hr
  · rename_i i ty
    split at hr
    · rename_i r p hl
      split at hr
      · rename_i t' m' y hat
        split at hr
        · rename_i hb
          simp only [Bool.and_eq_true] at hb
          split at hr
          · rename_i st1 hs
            split at hr
            · rename_i z hz
              cases hr
              have hv := h.vals i
              rw [hl] at hv
              obtain ⟨b, off, cs, c, hP, hv1⟩ := hv
              have := at_place hP hat
              subst this
              obtain ⟨own', h1, h2, h3⟩ := place_frz ok h hP hb.1 hs
              obtain ⟨ht, rfl⟩ := cast_some hz
              subst ht
              have tf := T _ _ (Env.is_lookup hb.2)
              obtain ⟨hl1, hc1⟩ := hP.cells ok h
              have hc := hc1 b off rfl
              have hload := run_loadAt tf hc
              refine ⟨valOf t' cs, own', cs, ?_, h1, h3, VS_cells hl1 (und_ne tf).1 (und_ne tf).2, OW_ro.2 h2⟩
              simp only [RvRun, hv1]
              exact hload
            · cases hr
          · cases hr
        · cases hr
      · cases hr
    · cases hr

theorem resOne_ro {E : Env S} {rv : ResultVar} {t : Ty} {st : ST S} : resOne E rv t .ro st = resOne0 E rv t .ro st := by cases t <;> rfl
theorem resOne_ok (ok : S.Ok) (T : TysOk g.P g.E) (h : Rel g own st a w) {rv : ResultVar} {t : Ty} {m : Mode} {x : S.den t} {st' : ST S} (hr : resOne g.E rv t m st = some (x, st')) :
    ∃ v own', RvRun g.P a.tmps w rv v ∧ Rel g own' st' a w ∧ Res1 S w (g.Z own' w) own' t m v x := by
  have gen : resOne0 g.E rv t m st = some (x, st') → ∃ v own', RvRun g.P a.tmps w rv v ∧ Rel g own' st' a w ∧ Res1 S w (g.Z own' w) own' t m v x := fun hr => by
    obtain ⟨v, own', cs, h0, h1, h2, h3, h4⟩ := resOne0_ok ok T h hr
    exact ⟨v, own', h0, h1, .of ⟨cs, h3, h4⟩⟩
  cases t with
  | box t => cases m with
    | own m =>
      cases rv with
      | cell _ _ => cases hr
      | tmp i =>
        have hr : resFresh i t m st = some (x, st') := hr
        unfold resFresh at hr
        split at hr
        · rename_i r p hl
          split at hr
          · rename_i k
            split at hr
            · rename_i c _ hk
              split at hr
              · rename_i hm _
                split at hr
                · rename_i y hy
                  cases hr
                  obtain ⟨ht, rfl⟩ := cast_some hy
                  obtain ⟨ct, cm, cx⟩ := c
                  simp only at ht hm
                  subst ht
                  subst hm
                  have hv := h.vals i
                  rw [hl] at hv
                  obtain ⟨b, off, cs', c', hp, hval⟩ := hv
                  obtain ⟨t0, m0, x0, l0, cs0, h1, h2, h3, h4, h5, h6⟩ := hp
                  obtain ⟨b0, e0, cl, f1, f2, f3, f4⟩ := h3
                  rw [nav_nil] at h5
                  have e5 := congrArg Prod.fst (Option.some.inj h5)
                  rw [f1] at e5
                  cases e5
                  obtain ⟨b1, e1, cells, g1, g2, g3, g4⟩ := h.mems k _ hk
                  have hbb := g4 b f2
                  subst hbb
                  refine ⟨_, limmem own k, rfl, h.limLess k, b, e1, cells, hval, limmem_at g1, g2, ?_⟩
                  exact OW_frame (fun b' hb => ⟨hb.1, hb.2.1, limmem_none hb.2.2⟩) (fun _ _ => rfl) _ _ _ _ _ _ (fun b' q hb => ⟨limmem_at hb, rfl⟩) g3
                · cases hr
              · cases hr
            · cases hr
          · cases hr
        · cases hr
    | _ => exact gen hr
  | _ => exact gen hr

theorem TupR_last {w : World} {Z : Nat → Prop} {t : Ty} {x : S.den t} {v : Value} {cs : List Value} (hn : notPair t = true) (h1 : VS t v cs) (h2 : S.R w Z t cs x) : TupR w Z t x [v] := by
  cases t <;> first | exact ⟨cs, h1, h2⟩ | cases hn

inductive RvAll (P : Program) (tmps : Array Value) (w : World) : List ResultVar → List Value → Prop
  | nil : RvAll P tmps w [] []
  | cons {r : ResultVar} {v : Value} {rs : List ResultVar} {vs : List Value} : RvRun P tmps w r v → RvAll P tmps w rs vs → RvAll P tmps w (r :: rs) (v :: vs)

theorem resMany_ok (ok : S.Ok) (T : TysOk g.P g.E) : ∀ (rs : List ResultVar) (t : Ty) (x : S.den t) (own : Nat → Option Own) (st st' : ST S), Rel g own st a w → resMany g.E rs t st = some (x, st') →
    ∃ own' vs, Rel g own' st' a w ∧ Lasts own own' ∧ RvAll g.P a.tmps w rs vs ∧ TupR w (g.Z own' w) t x vs
  | [], t, x, own, st, st', h, hr => by cases t <;> cases hr
  | [rv], t, x, own, st, st', h, hr => by
    have hr' : (match notPair t with | true => resOne g.E rv t .ro st | false => none) = some (x, st') := by cases t <;> exact hr
    split at hr'
    · rename_i hn
      rw [resOne_ro] at hr'
      obtain ⟨v, own', cs, h0, h1, h2, h3, h4⟩ := resOne0_ok ok T h hr'
      exact ⟨own', [v], h1, h2, .cons h0 .nil, TupR_last hn h3 (OW_ro.1 h4)⟩
    · cases hr'
  | rv :: s :: rs, t, x, own, st, st', h, hr => by
    cases t with
    | pair p q =>
      simp only [resMany] at hr
      split at hr
      · rename_i y st1 h1
        split at hr
        · rename_i z st2 h2
          simp only [Option.some.injEq] at hr
          obtain ⟨rfl, rfl⟩ := hr
          rw [resOne_ro] at h1
          obtain ⟨v, own1, cs, k0, k1, k2, k3, k4⟩ := resOne0_ok ok T h h1
          obtain ⟨own2, vs, j1, j2, j3, j4⟩ := resMany_ok ok T (s :: rs) q z own1 st1 _ k1 h2
          exact ⟨own2, v :: vs, j1, k2.trans j2, .cons k0 j3, ⟨cs, k3, (OW_ro.1 k4).frame (fun b hb => j2.Z hb) (fun _ _ => rfl)⟩, j4⟩
        · cases hr
      · cases hr
    | _ => cases hr

theorem mapM_rvs {P : Program} {w : World} (tmps : Array Value) (f : ResultVar → Sem Value) (hf : ∀ t, f (.tmp t) = pure (tmps.getD t undef)) (hf2 : ∀ a t, f (.cell a t) = (do loadVar t (← asAddr (tmps.getD a undef)))) : ∀ (rs : List ResultVar) (vs : List Value), RvAll P tmps w rs vs →
    (rs.mapM f).run P w = .ok vs w := by
  intro rs vs h
  induction h with
  | nil => rfl
  | @cons r v rs vs h1 h2 ih =>
    rw [List.mapM_cons]
    have hr : (f r).run P w = .ok v w := by
      cases r with
      | tmp i => rw [hf]; cases h1; rfl
      | cell i t => rw [hf2]; exact h1
    simp only [Sem.run_bind, hr, Result.andThen_ok, ih]
    rfl

def packV : List Value → Value
  | [v] => v
  | vs => .tuple vs.toArray

theorem run_results {P : Program} {fn : Func} {tmps : Array Value} {w : World} {vs : List Value} (h : RvAll P tmps w fn.results.toList vs) :
    (results fn tmps).run P w = .ok (packV vs) w := by
  have key : ∀ f : ResultVar → Sem Value, (∀ t, f (.tmp t) = pure (tmps.getD t undef)) → (∀ a t, f (.cell a t) = (do loadVar t (← asAddr (tmps.getD a undef)))) →
      (do let vs ← List.toArray <$> fn.results.toList.mapM f; pure (if h : vs.size = 1 then vs[0] else .tuple vs) : Sem Value).run P w =
        .ok (packV vs) w := fun f hf hf2 => by
    have := mapM_rvs (P := P) (w := w) tmps f hf hf2 fn.results.toList vs h
    simp only [Sem.run_bind, Sem.run_map, this, Result.andThen_ok]
    match vs with
    | [] => rfl
    | [v] => rfl
    | u :: v :: l => rfl
  unfold results
  rw [Array.mapM_eq_mapM_toList]
  exact key _ (fun t => rfl) (fun a t => rfl)

/-- The result, as the contract tells it. -/
theorem resAll_ok (ok : S.Ok) (T : TysOk g.P g.E) {F : FSpec S.toNm} {fn : Func} {x : S.den F.rt} {st' : ST S} (h : Rel g own st a w) (hnr : F.nres = fn.results.toList.length)
    (hr : resAll g.E fn.results.toList F.rt F.rm st = some (x, st')) : ∃ own' v, Rel g own' st' a w ∧ (results fn a.tmps).run g.P w = .ok v w ∧ ResR w (g.Z own' w) own' F v x := by
  generalize hrs : fn.results.toList = rs at *
  unfold resAll at hr
  split at hr
  · cases hr
    refine ⟨own, _, h, run_results (by rw [hrs]; exact .nil), ?_⟩
    unfold ResR
    rw [hnr]
    trivial
  · rename_i rv
    obtain ⟨v, own', h0, h1, h2⟩ := resOne_ok ok T h hr
    refine ⟨own', v, h1, run_results (by rw [hrs]; exact .cons h0 .nil), ?_⟩
    unfold ResR
    rw [hnr]
    exact h2
  · rename_i rs' hne1 hne2
    obtain ⟨own', vs, h1, h2, h3, h4⟩ := resMany_ok ok T rs F.rt x own st st' h hr
    refine ⟨own', _, h1, run_results (by rw [hrs]; exact h3), ?_⟩
    cases h3 with
    | nil => exact absurd rfl hne1
    | @cons r0 v0 rs0 vs0 c1 c2 =>
      cases c2 with
      | nil => exact absurd rfl (hne2 _)
      | @cons r1 v1 rs1 vs1 c3 c4 =>
        unfold ResR
        rw [hnr]
        exact ⟨_, rfl, by simpa using h4⟩

theorem memAll_ok {w : World} : ∀ (ps : List PK) (k : Nat) (vs : List Value) (x0 : S.den (packTy (argT ps))) (w0 : World) (Z0 : Nat → Prop) (own0 : Nat → Option Own) (y : S.den (packTy (outT (outs ps)))),
    ArgsR S w0 Z0 own0 k ps vs x0 → Rel g own st a w → (∀ i v, (i, v) ∈ ioArgs k ps vs → ∃ b, v = .pointer (some ⟨b, 0, none⟩) ∧ g.pin i = some b) →
    memAll st (ioKs k ps) (outs ps) = some y → OutsR S w (g.Z own w) own (ioArgs k ps vs) (outs ps) y
  | [], k, [], x0, w0, Z0, own0, y, hA, h, hp, hy => trivial
  | [], k, _ :: _, x0, w0, Z0, own0, y, hA, h, hp, hy => hA.elim
  | _ :: _, k, [], x0, w0, Z0, own0, y, hA, h, hp, hy => hA.elim
  | .val t :: ps, k, v :: vs, x0, w0, Z0, own0, y, hA, h, hp, hy => memAll_ok ps (k + 1) vs x0.2 w0 Z0 own0 y hA.2 h hp hy
  | .io t m :: ps, k, v :: vs, x0, w0, Z0, own0, y, hA, h, hp, hy => by
    simp only [ioKs, outs, memAll] at hy
    split at hy
    · rename_i u z e1 e2
      cases hy
      refine ⟨?_, memAll_ok ps (k + 1) vs x0.2 w0 Z0 own0 z hA.2 h (fun i v hi => hp i v (List.mem_cons_of_mem _ hi)) e2⟩
      unfold memOne at e1
      split at e1
      · rename_i c hc
        split at e1
        · rename_i hm _
          obtain ⟨ht, rfl⟩ := cast_some e1
          obtain ⟨b, e, cells, g1, g2, g3, g4⟩ := h.mems k c hc
          obtain ⟨bp, hv, hpin⟩ := hp k v (List.mem_cons_self ..)
          have := h.pins k bp b hpin g1
          subst this
          obtain ⟨ct, cm, cx⟩ := c
          simp only at ht hm g3
          subst ht
          subst hm
          exact ⟨b, e, cells, hv, g1, g2, g3, g4⟩
        · cases e1
      · cases e1
    · cases hy

/-! ### The beginning -/
theorem inV_lookup : ∀ (ps : List PK) (k i : Nat) (x : S.den (packTy (argT ps))) (j : Nat), j < i → (inV k i ps x).lookup j = none
  | [], _, _, _, _, _ => rfl
  | .val t :: ps, k, i, x, j, h => by
    have : (j == i) = false := by simp; omega
    simp only [inV, List.lookup_cons, this]
    exact inV_lookup ps (k + 1) (i + 1) x.2 j (by omega)
  | .io t m :: ps, k, i, x, j, h => by
    have : (j == i) = false := by simp; omega
    simp only [inV, List.lookup_cons, this]
    exact inV_lookup ps (k + 1) (i + 1) x.2 j (by omega)
theorem inM_lookup : ∀ (ps : List PK) (k : Nat) (x : S.den (packTy (argT ps))) (j : Nat), j < k → (inM k ps x).lookup j = none
  | [], _, _, _, _ => rfl
  | .val t :: ps, k, x, j, h => inM_lookup ps (k + 1) x.2 j (by omega)
  | .io t m :: ps, k, x, j, h => by
    have : (j == k) = false := by simp; omega
    simp only [inM, List.lookup_cons, this]
    exact inM_lookup ps (k + 1) x.2 j (by omega)

/-- What a slot is in the beginning. -/
theorem inV_ok {w : World} {Z : Nat → Prop} {own : Nat → Option Own} : ∀ (ps : List PK) (k i : Nat) (x : S.den (packTy (argT ps))) (vs : List Value), ArgsR S w Z own k ps vs x → ∀ j A, (inV k i ps x).lookup j = some A →
    i ≤ j ∧ ∃ v, vs[j - i]? = some v ∧ ((∃ t y cs, A = inA t y ∧ VS t v cs ∧ S.R w Z t cs y) ∨ (∃ k' t m y, A = .addr (.mem k') [] ∧ (inM k ps x).lookup k' = some ⟨t, m, y⟩ ∧ IoR S w Z own k' v t m y))
  | [], k, i, x, [], hA, j, A, h => by cases h
  | [], k, i, x, _ :: _, hA, j, A, h => hA.elim
  | _ :: _, k, i, x, [], hA, j, A, h => hA.elim
  | .val t :: ps, k, i, x, v :: vs, hA, j, A, h => by
    simp only [inV, List.lookup_cons] at h
    cases hj : j == i
    · rw [hj] at h
      obtain ⟨h1, v', h2, h3⟩ := inV_ok ps (k + 1) (i + 1) x.2 vs hA.2 j A h
      refine ⟨by omega, v', ?_, h3⟩
      rw [show j - i = (j - (i + 1)) + 1 by omega, List.getElem?_cons_succ]; exact h2
    · rw [hj] at h
      have : j = i := by simpa using hj
      subst this
      cases h
      obtain ⟨cs, h1, h2⟩ := hA.1
      exact ⟨Nat.le_refl _, v, by simp, .inl ⟨t, x.1, cs, rfl, h1, h2⟩⟩
  | .io t m :: ps, k, i, x, v :: vs, hA, j, A, h => by
    simp only [inV, List.lookup_cons] at h
    cases hj : j == i
    · rw [hj] at h
      obtain ⟨h1, v', h2, h3⟩ := inV_ok ps (k + 1) (i + 1) x.2 vs hA.2 j A h
      refine ⟨by omega, v', ?_, ?_⟩
      · rw [show j - i = (j - (i + 1)) + 1 by omega, List.getElem?_cons_succ]; exact h2
      · rcases h3 with h3 | ⟨k', t', m', y', e1, e2, e3⟩
        · exact .inl h3
        · refine .inr ⟨k', t', m', y', e1, ?_, e3⟩
          have : (k' == k) = false := by
            simp only [beq_eq_false_iff_ne]
            rintro rfl
            rw [inM_lookup ps (k' + 1) x.2 k' (by omega)] at e2
            cases e2
          simp only [inM, List.lookup_cons, this]
          exact e2
    · rw [hj] at h
      have : j = i := by simpa using hj
      subst this
      cases h
      refine ⟨Nat.le_refl _, v, by simp, .inr ⟨k, t, m, x.1, rfl, ?_, hA.1⟩⟩
      simp [inM]

theorem inM_ok {w : World} {Z : Nat → Prop} {own : Nat → Option Own} : ∀ (ps : List PK) (k : Nat) (x : S.den (packTy (argT ps))) (vs : List Value), ArgsR S w Z own k ps vs x → ∀ j c, (inM k ps x).lookup j = some c →
    ∃ v, (j, v) ∈ ioArgs k ps vs ∧ IoR S w Z own j v c.t c.m c.x
  | [], k, x, [], hA, j, c, h => by cases h
  | [], k, x, _ :: _, hA, j, c, h => hA.elim
  | _ :: _, k, x, [], hA, j, c, h => hA.elim
  | .val t :: ps, k, x, v :: vs, hA, j, c, h => inM_ok ps (k + 1) x.2 vs hA.2 j c h
  | .io t m :: ps, k, x, v :: vs, hA, j, c, h => by
    simp only [inM, List.lookup_cons] at h
    cases hj : j == k
    · rw [hj] at h
      obtain ⟨v', h1, h2⟩ := inM_ok ps (k + 1) x.2 vs hA.2 j c h
      exact ⟨v', List.mem_cons_of_mem _ h1, h2⟩
    · rw [hj] at h
      have : j = k := by simpa using hj
      subst this
      cases h
      exact ⟨v, List.mem_cons_self .., hA.1⟩

theorem ioArgs_R {w : World} {Z : Nat → Prop} {own : Nat → Option Own} : ∀ (ps : List PK) (k : Nat) (x : S.den (packTy (argT ps))) (vs : List Value), ArgsR S w Z own k ps vs x → ∀ j v, (ioArgs k ps vs).lookup j = some v →
    k ≤ j ∧ ∃ t m y, IoR S w Z own j v t m y
  | [], k, x, [], hA, j, v, h => by cases h
  | [], k, x, _ :: _, hA, j, v, h => hA.elim
  | _ :: _, k, x, [], hA, j, v, h => hA.elim
  | .val t :: ps, k, x, v :: vs, hA, j, u, h => let ⟨h1, h2⟩ := ioArgs_R ps (k + 1) x.2 vs hA.2 j u h; ⟨by omega, h2⟩
  | .io t m :: ps, k, x, v :: vs, hA, j, u, h => by
    simp only [ioArgs, List.lookup_cons] at h
    cases hj : j == k
    · rw [hj] at h
      obtain ⟨h1, h2⟩ := ioArgs_R ps (k + 1) x.2 vs hA.2 j u h
      exact ⟨by omega, h2⟩
    · rw [hj] at h
      have : j = k := by simpa using hj
      subst this
      cases h
      exact ⟨Nat.le_refl _, t, m, x.1, hA.1⟩
theorem ioArgs_mem {w : World} {Z : Nat → Prop} {own : Nat → Option Own} : ∀ (ps : List PK) (k : Nat) (x : S.den (packTy (argT ps))) (vs : List Value), ArgsR S w Z own k ps vs x → ∀ j v, (j, v) ∈ ioArgs k ps vs →
    k ≤ j ∧ (ioArgs k ps vs).lookup j = some v ∧ ∃ t m y, IoR S w Z own j v t m y
  | [], k, x, [], hA, j, v, h => by cases h
  | [], k, x, _ :: _, hA, j, v, h => hA.elim
  | _ :: _, k, x, [], hA, j, v, h => hA.elim
  | .val t :: ps, k, x, v :: vs, hA, j, u, h => let ⟨h1, h2⟩ := ioArgs_mem ps (k + 1) x.2 vs hA.2 j u h; ⟨by omega, h2⟩
  | .io t m :: ps, k, x, v :: vs, hA, j, u, h => by
    rcases List.mem_cons.1 h with e | h
    · cases e
      exact ⟨Nat.le_refl _, by simp [ioArgs], t, m, x.1, hA.1⟩
    · obtain ⟨h1, h2, h3⟩ := ioArgs_mem ps (k + 1) x.2 vs hA.2 j u h
      refine ⟨by omega, ?_, h3⟩
      have : (j == k) = false := by simp; omega
      simp only [ioArgs, List.lookup_cons, this]
      exact h2

theorem TR_inA {t : Ty} {y : S.den t} {i : Nat} {v : Value} (h : ∃ cs, VS t v cs ∧ S.R w (g.Z own w) t cs y) : TR g st own a w i (inA t y) v := by
  obtain ⟨cs, h1, h2⟩ := h
  cases t with
  | box u =>
    obtain ⟨b, off, cs', e1, e2, e3, e4⟩ := Cx.R_box.1 h2
    have h1 : cs = [v] := h1
    rw [h1] at e1
    exact ⟨b, off, cs', (List.cons.inj e1).1, e2, e3, e4⟩
  | _ => exact TR_ro.2 ⟨cs, h1, h2⟩

def pinOf (l : List (Nat × Value)) (k : Nat) : Option Nat := match l.lookup k with
  | some (.pointer (some a)) => some a.block
  | _ => none

theorem rel_in {P : Program} {E : Env S} {w : World} {Z : Nat → Prop} {own : Nat → Option Own} {ps : List PK} {x : S.den (packTy (argT ps))} {vs : List Value} {n : Nat}
    (hZ : ∀ b, Z b → b < w.heap.size ∧ own b = none) (hown : ∀ b, own b ≠ none → b < w.heap.size) (hA : ArgsR S w Z own ioBase ps vs x) (hzn : ∀ b, Z b → b < w.heap.size ∧ ¬ own b ≠ none) (hG : GlobR S w Z) :
    Rel ⟨P, E, w, Z, fun b => own b ≠ none, pinOf (ioArgs ioBase ps vs), hzn, hG⟩ own (stIn ps x) ⟨vs.toArray ++ Array.replicate (n - vs.toArray.size) undef, []⟩ w := by
  have hZ' : ∀ b, Z b → Gl.Z (S := S) ⟨P, E, w, Z, fun b => own b ≠ none, pinOf (ioArgs ioBase ps vs), hzn, hG⟩ own w b := fun b hb => ⟨.inl hb, (hZ b hb).1, (hZ b hb).2⟩
  have hM : ∀ k c, (stIn ps x).mems.lookup k = some c → MR (S := S) ⟨P, E, w, Z, fun b => own b ≠ none, pinOf (ioArgs ioBase ps vs), hzn, hG⟩ own w k c := fun k c hk => by
    obtain ⟨v, h1, b, e, cells, h2, h3, h4, h5, h6⟩ := inM_ok ps ioBase x vs hA k c hk
    exact ⟨b, e, cells, h3, h4, OW_frame hZ' (fun _ _ => rfl) _ _ _ _ _ _ (fun b q hb => ⟨hb, rfl⟩) h5, h6⟩
  refine ⟨rfl, rfl, rfl, Nat.le_refl _, fun _ _ _ => rfl, fun b hb => ⟨.inr hb, hown b hb⟩, fun i => ?_, hM, rfl, fun k b b' hp hb => ?_⟩
  · have hl : (stIn ps x).look i = match (inV ioBase 0 ps x).lookup i with | some A => A | none => .dead := by
      simp only [St.look, stIn]
      cases (inV ioBase 0 ps x).lookup i <;> rfl
    rw [hl]
    cases hA' : (inV ioBase 0 ps x).lookup i with
    | none => trivial
    | some A =>
      obtain ⟨_, v, hv, h⟩ := inV_ok ps ioBase 0 x vs hA i A hA'
      rw [Nat.sub_zero] at hv
      have hlt : i < vs.length := (List.getElem?_eq_some_iff.1 hv).1
      have hv' : (vs.toArray ++ Array.replicate (n - vs.toArray.size) undef).getD i undef = v := by
        rw [Array.getD_eq_getD_getElem?, Array.getElem?_append_left (by simpa using hlt)]
        simp [hv]
      simp only [hv']
      rcases h with ⟨t, y, cs, rfl, h1, h2⟩ | ⟨k', t, m, y, rfl, h1, h2⟩
      · exact TR_inA ⟨cs, h1, h2.frame hZ' (fun _ _ => rfl)⟩
      · obtain ⟨b, e, cells, g1, g2, g3, g4, g5⟩ := h2
        refine ⟨b, 0, cells.toList, ⟨t, m, y⟩, ⟨t, m, y, some (b, 0), cells.toList, h1, (fun s hs => by cases hs), ⟨b, e, cells, rfl, g2, g3, rfl⟩, okP_nil, nav_nil, getP_nil⟩, g1⟩
  · simp only [pinOf] at hp
    split at hp
    · rename_i ad e
      cases hp
      obtain ⟨_, t, m, y, b0, e0, cells, g1, g2, g3, g4, g5⟩ := ioArgs_R ps ioBase x vs hA k _ e
      cases g1
      exact g5 b' hb
    · cases hp

theorem fn_ok {P : Program} {E : Env S} {F : FSpec S.toNm} {f : Nat} {fn : Func} {c : Code} {hn : Hint} (ok : S.Ok) (T : TysOk P E) (hfs : ∀ f F, E.fs f = some F → FnOk P F f) (hmo : P.follows .mixedOrders = true)
    (hf : P.funcs[f]? = some fn) (hb : fn.body = some c) (hname : (fn.name == "runtime.NumGoroutine") = false) (hres : F.nres = fn.results.toList.length) (hcode : codeOk E hn fn.ntmps c = true)
    (hn1 : F.ps.length ≤ fn.ntmps) (hn2 : fn.ntmps ≤ ioBase) (hFo : F.o = none)
    (hrun : ∀ x r, F.f x = some r → ∃ k, run E hn k c (stIn F.ps x) (fin E fn.results.toList F.rt F.rm (ioKs ioBase F.ps) (outs F.ps)) = some r) : FnOk P F f := by
  refine .of hFo ?_
  intro w Z own vs x r hZ hown hA hG hx
  have hzn : ∀ b, Z b → b < w.heap.size ∧ ¬ own b ≠ none := fun b hb => ⟨(hZ b hb).1, fun h => h (hZ b hb).2⟩
  have hlen : ∀ (ps : List PK) (k : Nat) (vs : List Value) (x : S.den (packTy (argT ps))), ArgsR S w Z own k ps vs x → vs.length = ps.length := by
    intro ps
    induction ps with
    | nil => intro k vs x h; cases vs with
      | nil => rfl
      | cons v vs => exact h.elim
    | cons p ps ih => intro k vs x h; cases vs with
      | nil => exact h.elim
      | cons v vs => simp [ih _ _ _ h.2]
  have hvl := hlen _ _ _ _ hA
  have henter : (callFunc f vs.toArray).run P w = .ok (.enter f vs.toArray) w := by
    simp only [callFunc, Sem.run_bind, run_program, Result.andThen_ok, hf, hname, Bool.false_eq_true, if_false, hb, Option.isNone]
    rfl
  unfold Enters
  rw [henter]
  obtain ⟨k, hk⟩ := hrun x r hx
  have hrel := rel_in (P := P) (E := E) (n := fn.ntmps) hZ hown hA hzn hG
  refine calls_of_wp hf hb (wp_mono (run_sound (g := ⟨P, E, w, Z, fun b => own b ≠ none, pinOf (ioArgs ioBase F.ps vs), hzn, hG⟩) (n := fn.ntmps) ok T hfs hmo (fun d hd => ?_) c (stIn F.ps x) _ r own _ w hcode hrel ?_ hk) ?_)
  · show pinOf (ioArgs ioBase F.ps vs) d = none
    unfold pinOf
    cases e : (ioArgs ioBase F.ps vs).lookup d with
    | none => rfl
    | some v => have := (ioArgs_R F.ps ioBase x vs hA d v e).1; omega
  · simp; omega
  · intro e a' w' hq
    have key : ∀ own' st', Rel ⟨P, E, w, Z, fun b => own b ≠ none, pinOf (ioArgs ioBase F.ps vs), hzn, hG⟩ own' st' a' w' → fin.go E fn.results.toList F.rt F.rm (ioKs ioBase F.ps) (outs F.ps) st' = some r →
        a'.defers = [] ∧ ∃ v, (results fn a'.tmps).run P w' = .ok v w' ∧ (∃ v', Ending.returned v = .returned v' ∧ ∃ own'', Left own own'' w w' ∧ ResR w' (zoneOf Z own own'' w w') own'' F v' r.1 ∧ OutsR S w' (zoneOf Z own own'' w w') own'' (ioArgs ioBase F.ps vs) (outs F.ps) r.2) := by
      intro own' st' h1 h2
      unfold fin.go at h2
      split at h2
      · rename_i y st1 e1
        split at h2
        · rename_i z e2
          cases h2
          obtain ⟨own1, v, k1, k2, k3⟩ := resAll_ok (F := F) ok T h1 hres e1
          refine ⟨h1.defs, v, k2, v, rfl, own1, ⟨k1.os, k1.tape, k1.output, k1.size, fun b hb hn => k1.block b hb (by simpa using hn), fun b hb => ⟨(k1.fresh b hb).2, (k1.fresh b hb).1⟩⟩, k3, ?_⟩
          refine memAll_ok F.ps ioBase vs x w Z own z hA k1 (fun i v hi => ?_) e2
          obtain ⟨_, hl, t, m, y, b, e, cells, g1, _⟩ := ioArgs_mem F.ps ioBase x vs hA i v hi
          refine ⟨b, g1, ?_⟩
          show pinOf (ioArgs ioBase F.ps vs) i = some b
          unfold pinOf
          rw [hl, g1]
        · cases h2
      · cases h2
    cases e with
    | normal => obtain ⟨own', st', h1, h2, h3⟩ := hq; exact key own' st' h1 h2
    | ret => obtain ⟨own', st', h1, h2, h3⟩ := hq; exact key own' st' h1 h2
    | exit i => obtain ⟨own', st', h1, h2, h3⟩ := hq; cases h2
    | goto i => exact hq.elim
    | panic c => exact hq.elim
    | outgrown => exact hq.elim
end
end Go.Proofs.YtpmlimdilajidaaDoor.Vm
namespace Go.Proofs.YtpmlimdilajidaaDoor.Vm
open Go Go.RowKit
set_option linter.unusedVariables false

section
variable {S : Cx}

def isTy (E : Env S) (n : Nat) (t : Ty) : Bool := E.is n t
def fieldsCheck (E : Env S) : List Field → Ty → Nat → Bool
  | f :: g :: fs, .pair a b, off => Nat.beq f.offset off && E.is f.type a && Nat.ble 1 (S.size a) && fieldsCheck E (g :: fs) b (off + S.size a)
  | [_], .pair _ _, _ => false
  | [f], u, off => Nat.beq f.offset off && E.is f.type u && Nat.ble 1 (S.size u)
  | _, _, _ => false
theorem fieldsCheck_ok {E : Env S} : ∀ (fs : List Field) (u : Ty) (off : Nat), fieldsCheck E fs u off = true → FieldsOk S E fs u off := by
  intro fs
  induction fs with
  | nil => intro u off h; cases u <;> cases h
  | cons f fs ih =>
    intro u off h
    cases fs with
    | nil =>
      cases u with
      | pair a b => cases h
      | _ =>
        simp only [fieldsCheck, Bool.and_eq_true] at h
        exact ⟨Nat.eq_of_beq_eq_true h.1.1, Env.is_lookup h.1.2, Nat.le_of_ble_eq_true h.2⟩
    | cons g fs =>
      cases u with
      | pair a b =>
        simp only [fieldsCheck, Bool.and_eq_true] at h
        exact ⟨Nat.eq_of_beq_eq_true h.1.1.1, Env.is_lookup h.1.1.2, Nat.le_of_ble_eq_true h.1.2, ih _ _ h.2⟩
      | _ => cases h

def undCheck (P : Program) (E : Env S) (t : Nat) : Ty → Bool
  | .int k => match P.underlying t with
    | some (.int k') => decide (k' = k)
    | _ => false
  | .bool => match P.underlying t with
    | some .bool => true
    | _ => false
  | .str => match P.underlying t with
    | some .string => true
    | _ => false
  | .slice e u => match P.underlying t with
    | some (.slice e') => Nat.beq e' e && E.is e u && Nat.ble 1 (S.size u)
    | _ => false
  | .ptr _ => match P.underlying t with
    | some (.pointer e) => match P.info? e with
      | some i => !Nat.beq i.size 0
      | none => false
    | _ => false
  | .agg u => match P.underlying t with
    | some (.struct fs) => fieldsCheck E fs.toList u 0
    | some (.array n e) => match u with
      | .arr n' v => Nat.beq n n' && E.is e v && Nat.ble 1 (S.size v)
      | _ => false
    | _ => false
  | .map k v => match P.underlying t with
    | some (.map kt et) => E.is kt k && E.is et v
    | _ => false
  | _ => false
theorem undCheck_ok {P : Program} {E : Env S} {t : Nat} {ty : Ty} (h : undCheck P E t ty = true) : UndOk P E t ty := by
  cases ty with
  | int k =>
    simp only [undCheck] at h
    split at h
    · rename_i k' e; have := of_decide_eq_true h; subst this; exact e
    · cases h
  | bool =>
    simp only [undCheck] at h
    split at h
    · assumption
    · cases h
  | str =>
    simp only [undCheck] at h
    split at h
    · assumption
    · cases h
  | slice e u =>
    simp only [undCheck] at h
    split at h
    · rename_i e' he
      simp only [Bool.and_eq_true] at h
      have := Nat.eq_of_beq_eq_true h.1.1
      subst this
      exact ⟨he, Env.is_lookup h.1.2, Nat.le_of_ble_eq_true h.2⟩
    · cases h
  | ptr n =>
    simp only [undCheck] at h
    split at h
    · rename_i e he
      split at h
      · rename_i i hi
        refine ⟨e, i, he, hi, fun h0 => ?_⟩
        rw [h0] at h; cases h
      · cases h
    · cases h
  | agg u =>
    simp only [undCheck] at h
    split at h
    · rename_i fs he; exact .inl ⟨fs, he, fieldsCheck_ok _ _ _ h⟩
    · rename_i n e he
      split at h
      · rename_i n' v
        simp only [Bool.and_eq_true] at h
        have := Nat.eq_of_beq_eq_true h.1.1
        subst this
        exact .inr ⟨_, _, e, rfl, he, Env.is_lookup h.1.2, Nat.le_of_ble_eq_true h.2⟩
      · cases h
    · cases h
  | map k v =>
    simp only [undCheck] at h
    split at h
    · rename_i kt et he
      simp only [Bool.and_eq_true] at h
      exact ⟨kt, et, he, Env.is_lookup h.1, Env.is_lookup h.2⟩
    · cases h
  | _ => cases h

/-- So many times. -/
def repO (f : List Value → Option (List Value)) : Nat → List Value → Option (List Value)
  | 0, l => some l
  | n + 1, l => match f l with
    | some l' => repO f n l'
    | none => none
theorem repO_ok {f : List Value → Option (List Value)} {c : List Value} (h : ∀ l l', f l = some l' → l = c ++ l') : ∀ (n : Nat) (l l' : List Value), repO f n l = some l' → l = (List.replicate n c).flatten ++ l'
  | 0, l, l', e => by cases e; rfl
  | n + 1, l, l', e => by
    simp only [repO] at e
    split at e
    · rename_i l1 e1
      rw [h _ _ e1, repO_ok h n l1 l' e, List.replicate_succ, List.flatten_cons, List.append_assoc]
    · cases e
/-- Nothing's cells. -/
def cellsCheck : List Value → Ty → Option (List Value)
  | .int k n :: l, .int k' => match decide (k = k') && decide (n = 0) with
    | true => some l
    | false => none
  | .bool b :: l, .bool => match b with
    | false => some l
    | true => none
  | .string s :: l, .str => match s.data.toList with
    | [] => some l
    | _ => none
  | .slice none 0 0 :: l, .slice _ _ => some l
  | .pointer none :: l, .ptr _ => some l
  | l, .pair a b => match cellsCheck l a with
    | some l' => cellsCheck l' b
    | none => none
  | l, .agg t => cellsCheck l t
  | .map none :: l, .map _ _ => some l
  | l, .arr n t => repO (fun l => cellsCheck l t) n l
  | _, _ => none
theorem cellsCheck_ok : ∀ (t : Ty) (l l' : List Value), cellsCheck l t = some l' → l = zc t ++ l' := by
  intro t
  induction t with
  | int k =>
    intro l l' h
    cases l with
    | nil => cases h
    | cons v l =>
      cases v with
      | int k' n =>
        simp only [cellsCheck] at h
        split at h
        · rename_i e
          simp only [Bool.and_eq_true, decide_eq_true_eq] at e
          cases h
          rw [e.1, e.2]; rfl
        · cases h
      | slice b n c => cases b <;> cases n <;> cases c <;> cases h
      | pointer p => cases p <;> cases h
      | _ => cases h
  | bool =>
    intro l l' h
    cases l with
    | nil => cases h
    | cons v l =>
      cases v with
      | bool b =>
        cases b with
        | false => cases h; rfl
        | true => cases h
      | slice b n c => cases b <;> cases n <;> cases c <;> cases h
      | pointer p => cases p <;> cases h
      | _ => cases h
  | str =>
    intro l l' h
    cases l with
    | nil => cases h
    | cons v l =>
      cases v with
      | string s =>
        simp only [cellsCheck] at h
        split at h
        · rename_i e
          cases h
          have : s = ByteArray.empty := by
            apply ByteArray.ext
            apply Array.ext'
            rw [e]; rfl
          rw [this]; rfl
        · cases h
      | slice b n c => cases b <;> cases n <;> cases c <;> cases h
      | pointer p => cases p <;> cases h
      | _ => cases h
  | slice e t ih =>
    intro l l' h
    cases l with
    | nil => cases h
    | cons v l =>
      cases v with
      | slice b n c => cases b <;> cases n <;> cases c <;> first | (cases h; rfl) | cases h
      | pointer p => cases p <;> cases h
      | _ => cases h
  | pair a b iha ihb =>
    intro l l' h
    have h' : (match cellsCheck l a with | some l' => cellsCheck l' b | none => none) = some l' := by
      rw [← h]
      cases l with
      | nil => rfl
      | cons v l => cases v <;> (first | rfl | (rename_i b n c; cases b <;> cases n <;> cases c <;> rfl) | (rename_i p; cases p <;> rfl))
    split at h'
    · rename_i l1 e
      rw [iha _ _ e, ihb _ _ h']
      simp [zc]
    · cases h'
  | agg t ih =>
    intro l l' h
    refine ih l l' ?_
    rw [← h]
    cases l with
    | nil => rfl
    | cons v l => cases v <;> (first | rfl | (rename_i b n c; cases b <;> cases n <;> cases c <;> rfl) | (rename_i p; cases p <;> rfl))
  | ptr n =>
    intro l l' h
    cases l with
    | nil => cases h
    | cons v l =>
      cases v with
      | pointer p => cases p with
        | none => cases h; rfl
        | some _ => cases h
      | slice b n c => cases b <;> cases n <;> cases c <;> cases h
      | _ => cases h
  | named n =>
    intro l l' h
    cases l with
    | nil => cases h
    | cons v l => cases v <;> (first | cases h | (rename_i b n c; cases b <;> cases n <;> cases c <;> cases h) | (rename_i p; cases p <;> cases h))
  | unit =>
    intro l l' h
    cases l with
    | nil => cases h
    | cons v l => cases v <;> (first | cases h | (rename_i b n c; cases b <;> cases n <;> cases c <;> cases h) | (rename_i p; cases p <;> cases h))
  | arr n t ih =>
    intro l l' h
    refine repO_ok (f := fun l => cellsCheck l t) ih n l l' ?_
    rw [← h]
    cases l with
    | nil => rfl
    | cons v l => cases v <;> (first | rfl | (rename_i b n c; cases b <;> cases n <;> cases c <;> rfl) | (rename_i p; cases p <;> rfl))
  | box t ih =>
    intro l l' h
    cases l with
    | nil => cases h
    | cons v l => cases v <;> (first | cases h | (rename_i b n c; cases b <;> cases n <;> cases c <;> cases h) | (rename_i p; cases p <;> cases h))
  | map k v ihk ihv =>
    intro l l' h
    cases l with
    | nil => cases h
    | cons v l => cases v <;> (first | cases h | (rename_i b n c; cases b <;> cases n <;> cases c <;> cases h) | (rename_i p; cases p <;> first | (cases h; rfl) | cases h))
  | clo f u ih =>
    intro l l' h
    cases l with
    | nil => cases h
    | cons v l => cases v <;> (first | cases h | (rename_i b n c; cases b <;> cases n <;> cases c <;> cases h) | (rename_i p; cases p <;> cases h))

def zeroCheck (t : Ty) (z : Value) : Bool :=
  match t.isAgg with
  | true => match z with
    | .agg cs => match cellsCheck cs.toList t with
      | some [] => true
      | _ => false
    | _ => false
  | false => match cellsCheck [z] t with
    | some [] => true
    | _ => false
theorem zeroCheck_ok {t : Ty} {z : Value} (h : zeroCheck t z = true) : VS t z (zc t) := by
  unfold zeroCheck at h
  unfold VS
  split at h
  · rename_i ht
    split at h
    · rename_i cs
      split at h
      · rename_i e
        have := cellsCheck_ok _ _ _ e
        rw [List.append_nil] at this
        simp only [ht, ← this]
      · cases h
    · cases h
  · rename_i ht
    split at h
    · rename_i e
      have := cellsCheck_ok _ _ _ e
      rw [List.append_nil] at this
      simp only [ht, ← this]
    · cases h

def eqCheck (P : Program) (t : Nat) (ty : Ty) : Bool :=
  match ty.isAgg && ty.eqable with
  | true => Nat.ble ty.tdep 100 && !P.stoodInHeld t && !P.eqGuardType P.depth t && (P.fieldsOf t).toList.all fun f => f.name != "_"
  | false => true
theorem eqCheck_ok {P : Program} {t : Nat} {ty : Ty} (h : eqCheck P t ty = true) : EqOk P t ty := by
  intro h1 h2
  unfold eqCheck at h
  rw [h1, h2] at h
  simp only [Bool.and_self, Bool.and_eq_true, Bool.not_eq_true', List.all_eq_true, bne_iff_ne] at h
  exact ⟨Nat.le_of_ble_eq_true h.1.1.1, h.1.1.2, h.1.2, h.2⟩
def tyCheck (P : Program) (E : Env S) (t : Nat) (ty : Ty) : Bool :=
  undCheck P E t ty && (ty.isMap || noName ty) && Nat.ble 1 (S.size ty) && eqCheck P t ty && match P.info? t with
    | some i => Nat.beq i.size (S.size ty) && Nat.ble i.bytes 4096 && match i.zero with
      | some z => zeroCheck ty z
      | none => false
    | none => false
theorem tyCheck_ok {P : Program} {E : Env S} {t : Nat} {ty : Ty} (h : tyCheck P E t ty = true) : TyFact P E t ty := by
  simp only [tyCheck, Bool.and_eq_true] at h
  obtain ⟨⟨⟨⟨h1, h2⟩, h3⟩, h8⟩, h4⟩ := h
  split at h4
  · rename_i i hi
    simp only [Bool.and_eq_true] at h4
    obtain ⟨⟨h5, h6⟩, h7⟩ := h4
    split at h7
    · rename_i z hz
      exact ⟨undCheck_ok h1, ⟨i, z, hi, Nat.eq_of_beq_eq_true h5, hz, zeroCheck_ok h7, Nat.le_of_ble_eq_true h6⟩, (fun hm => by rw [hm] at h2; simpa using h2), Nat.le_of_ble_eq_true h3, eqCheck_ok h8⟩
    · cases h7
  · cases h4
theorem lookup_mem {β : Type} : ∀ (l : List (Nat × β)) (k : Nat) (x : β), l.lookup k = some x → (k, x) ∈ l
  | [], _, _, h => by cases h
  | (k0, b) :: l, k, x, h => by
    rw [List.lookup_cons] at h
    cases hk : k == k0
    · rw [hk] at h; exact List.mem_cons_of_mem _ (lookup_mem l k x h)
    · rw [hk] at h
      have : k = k0 := by simpa using hk
      cases h; subst this; exact List.mem_cons_self ..
theorem tysOk {P : Program} {E : Env S} (h : (E.tys.all fun x => tyCheck P E x.1 x.2) = true) : TysOk P E := fun t ty ht =>
  tyCheck_ok (List.all_eq_true.1 h _ (lookup_mem _ _ _ ht))
end
end Go.Proofs.YtpmlimdilajidaaDoor.Vm
namespace Go.Proofs.YtpmlimdilajidaaDoor.Vm
open Go Go.RowKit
set_option linter.unusedVariables false

section
variable {S : Cx}
/-- A function's run, as plain data. -/
noncomputable def runOf (E : Env S) (hn : Hint) (k : Nat) (fn : Func) (ps : List PK) (rt : Ty) (rm : Mode) (x : S.den (packTy (argT ps))) : Option (S.den (resTy rt (outT (outs ps)))) :=
  run E hn k (fn.body.getD .skip) (stIn ps x) (fin E fn.results.toList rt rm (ioKs ioBase ps) (outs ps))

def fnCheck (E : Env S) (hn : Hint) (fn : Func) (F : FSpec S.toNm) : Bool :=
  (match fn.body with
    | some c => codeOk E hn fn.ntmps c
    | none => false) && !(fn.name == "runtime.NumGoroutine") && Nat.beq F.nres fn.results.toList.length && Nat.ble F.ps.length fn.ntmps && Nat.ble fn.ntmps ioBase && F.o.isNone

theorem fn_of {P : Program} {E : Env S} {F : FSpec S.toNm} {f : Nat} {fn : Func} {hn : Hint} (ok : S.Ok) (T : TysOk P E) (hfs : ∀ f F, E.fs f = some F → FnOk P F f) (hmo : P.follows .mixedOrders = true)
    (hf : P.funcs[f]? = some fn) (hc : fnCheck E hn fn F = true) (hrun : ∀ x r, F.f x = some r → ∃ k, runOf E hn k fn F.ps F.rt F.rm x = some r) : FnOk P F f := by
  simp only [fnCheck, Bool.and_eq_true, Bool.not_eq_true'] at hc
  obtain ⟨⟨⟨⟨⟨h1, h2⟩, h3⟩, h4⟩, h5⟩, h6⟩ := hc
  split at h1
  · rename_i c hb
    refine fn_ok (c := c) (hn := hn) ok T hfs hmo hf hb h2 (Nat.eq_of_beq_eq_true h3) h1 (Nat.le_of_ble_eq_true h4) (Nat.le_of_ble_eq_true h5) (Option.isNone_iff_eq_none.1 h6) (fun x r hx => ?_)
    obtain ⟨k, this⟩ := hrun x r hx
    unfold runOf at this
    rw [hb] at this
    exact ⟨k, this⟩
  · cases h1

/-- A part of a code. -/
def subC : Code → List Nat → Code
  | c, [] => c
  | .seq a b, i :: l => match i with
    | 0 => subC a l
    | _ => subC b l
  | .cond _ a b, i :: l => match i with
    | 0 => subC a l
    | _ => subC b l
  | .block _ c, _ :: l => subC c l
  | .loop c, _ :: l => subC c l
  | c, _ => c
def bodyC (fn : Func) : Code := fn.body.getD .skip

/-- A list of functions with what is told of them. -/
def fsOf (l : List (Nat × FSpec S.toNm)) : Nat → Option (FSpec S.toNm) := fun f => l.lookup f
theorem fs_nil {P : Program} : ∀ f F, fsOf (S := S) [] f = some F → FnOk P F f := fun _ _ h => by cases h
theorem fs_cons {P : Program} {l : List (Nat × FSpec S.toNm)} {f : Nat} {F : FSpec S.toNm} (h : FnOk P F f) (hl : ∀ f F, fsOf l f = some F → FnOk P F f) : ∀ f' F', fsOf ((f, F) :: l) f' = some F' → FnOk P F' f' := by
  intro f' F' h'
  simp only [fsOf, List.lookup_cons] at h'
  cases hf : f' == f
  · rw [hf] at h'; exact hl f' F' h'
  · rw [hf] at h'
    have : f' = f := by simpa using hf
    cases h'; subst this; exact h
end
end Go.Proofs.YtpmlimdilajidaaDoor.Vm
namespace Go.Proofs.YtpmlimdilajidaaDoor.Vm
open Go

section
variable {S : Cx} {α : Type}
def w64 (n : Int) : Int := IntKind.wrap .i64 n
def w8 (n : Int) : Int := IntKind.wrap .u8 n
def byteAt (l : List UInt8) (i : Nat) : Int := ((List.getD l i 0).toNat : Int)
def withinR (i : Int) (n : Nat) (κ : Nat → Option α) : Option α := mustR (decide (0 ≤ i)) (mustR (decide (i < (n : Int))) (κ i.toNat))
def room {β γ : Type} (l1 : List β) (l2 : List γ) : Bool := decide ((List.length l1 + List.length l2) * 4096 ≤ 140737488355328)
def fuel : Nat := 4611686018427387904
noncomputable def seqC (E : Env S) (h : Hint) (k : Nat) (c : Code) (κ : Exit → ST S → Option α) : Exit → ST S → Option α := seqK (run E h k c) (h.inn c) (h.out c) κ
noncomputable def outD (h : Hint) (c : Code) (κ : Exit → ST S → Option α) : Exit → ST S → Option α := outC (h.out c) κ
noncomputable def loopD (E : Env S) (h : Hint) (k : Nat) (c : Code) (κ : Exit → ST S → Option α) (n : Nat) : Exit → ST S → Option α := loopE (loopK (run E h k c) (h.inn c) κ n) (h.inn c) κ
def uK {γ : Type} (rb : ST S → γ → Option α) (st : ST S) (κ : γ) : Option α := match two with | true => rb st κ | false => none
theorem cut_u {γ : Type} (rb : ST S → γ → Option α) (st : ST S) (κ : γ) : cutK rb st κ = uK rb st κ := rfl
noncomputable def runP (E : Env S) (h : Hint) (k : Nat) (c : Code) (st : ST S) (κ : Exit → ST S → Option α) : Option α := run E h k c st κ
noncomputable def loopP (E : Env S) (h : Hint) (k : Nat) (c : Code) (κ : Exit → ST S → Option α) (n : Nat) (st : ST S) : Option α := loopK (run E h k c) (h.inn c) κ n st
noncomputable abbrev loopL (E : Env S) (h : Hint) (k : Nat) (c : Code) (κ : Exit → ST S → Option α) (n : Nat) : ST S → Unit → Option α := fun st _ => loopK (run E h k c) (h.inn c) κ n st
theorem fn_none {P : Program} {F : FSpec S.toNm} {f : Nat} (h : ∀ x, F.f x = none) (ho : F.o = none := by rfl) : FnOk P F f := .of ho fun w Z own vs x r h1 h2 h3 _ h4 => by rw [h x] at h4; cases h4
end
end Go.Proofs.YtpmlimdilajidaaDoor.Vm
namespace Go.Proofs.YtpmlimdilajidaaDoor.Vm
open Go Go.RowKit
set_option linter.unusedVariables false

section
variable {S : Cx} {H : Type} {enc : TypeId × Value → H} {P : Program} {E : Env S}

def wfInt (k : IntKind) (n : Int) : Prop := k.min ≤ n ∧ n ≤ k.max
/-- What may come in: whole numbers of their kinds; what may be stored. -/
def Wf (S : Cx) : (t : Ty) → S.den t → Prop
  | .int k, n => wfInt k n
  | .str, s => List.length (α := UInt8) s ≤ maxLen
  | .slice _ t, l => List.length (α := S.den t) l ≤ maxLen ∧ ∀ y : S.den t, List.Mem y l → Wf S t y
  | .pair a b, x => Wf S a x.1 ∧ Wf S b x.2
  | .agg t, x => Wf S t x
  | .arr n t, l => List.length (α := S.den t) l = n ∧ ∀ y : S.den t, List.Mem y l → Wf S t y
  | _, _ => True
def plainTy : Ty → Bool
  | .int _ => true
  | .bool => true
  | .str => true
  | .slice _ t => plainTy t
  | .pair a b => plainTy a && plainTy b
  | .agg t => plainTy t
  | .arr _ t => match t with
    | .int _ => true
    | _ => false
  | _ => false

theorem cells_at {w : World} {a : Addr} {n : Nat} {cs : List Value} (hn : 0 < n) (h : w.cells? 0 a n = some cs) : a.spot = none ∧ a.block < w.heap.size ∧ cellsAt w a.block a.off n = some cs := by
  simp only [World.cells?, Nat.zero_le, if_true] at h
  have hl : cs.length = n := by simpa using mapM_some_length h
  have hg : ∀ i, i < n → w.cell? (a.add i) = cs[i]? := fun i hi => mapM_some_get h i i (by simp [hi])
  have h0 := hg 0 hn
  have e0 : a.add 0 = a := by simp [Addr.add]
  rw [e0, List.getElem?_eq_getElem (by omega)] at h0
  unfold World.cell? at h0
  cases hb : w.heap[a.block]? with
  | none => rw [hb] at h0; cases h0
  | some o =>
    rw [hb] at h0
    cases o with
    | cells c e f =>
      simp only at h0
      cases hs : a.spot with
      | some z => rw [hs] at h0; simp at h0
      | none =>
        have hc : ∀ i, i < n → c[a.off + i]? = cs[i]? := fun i hi => by
          rw [← hg i hi]
          unfold World.cell?
          by_cases hz : i = 0
          · subst hz; rw [e0, hb]; simp [hs]
          · simp only [Addr.add, if_neg hz, hb]; simp
        refine ⟨rfl, (Array.getElem?_eq_some_iff.1 hb).1, ?_⟩
        have hsz : a.off + n ≤ c.size := by
          have h1 := hc (n - 1) (by omega)
          rw [List.getElem?_eq_getElem (by omega)] at h1
          have := (Array.getElem?_eq_some_iff.1 h1).1
          omega
        unfold cellsAt
        rw [hb]
        simp only
        rw [if_pos hsz]
        congr 1
        apply List.ext_getElem?
        intro i
        by_cases hi : i < n
        · rw [← hc i hi, List.getElem?_take, if_pos hi, List.getElem?_drop]; simp
        · rw [List.getElem?_eq_none (by simp; omega), List.getElem?_eq_none (by omega)]
    | _ => cases h0

theorem lookup_cells (T : TysOk P E) {t : Nat} {ty : Ty} (h : E.tys.lookup t = some ty) : P.cellsOf t = S.size ty ∧ 0 < S.size ty := by
  obtain ⟨i, z, h1, h2, _⟩ := (T t ty h).info
  exact ⟨by simp [Program.cellsOf, h1, h2], (T t ty h).pos⟩

def In (S : Cx) (w : World) (ty : Ty) (cs : List Value) : Prop := ∃ x : S.den ty, S.R w (fun b => b < w.heap.size) ty cs x ∧ Wf S ty x

theorem trod_both (T : TysOk P E) {w : World} {sp : Nat → Bool} {held : Bool} : ∀ (ty : Ty), plainTy ty = true →
    (∀ (t fuel : Nat) (cs : List Value) (r : DataW H × List MemPlace), E.tys.lookup t = some ty → DataW.trod enc P w 0 sp held fuel t cs = some r → In S w ty cs) ∧
    (∀ (fs : List Field) (off n : Nat) (cs : List Value), FieldsOk S E fs ty off → cs.length = off + S.size ty →
      (∀ f ∈ fs, ∃ r : DataW H × List MemPlace, DataW.trod enc P w 0 sp held n f.type ((cs.drop f.offset).take (P.cellsOf f.type)) = some r) → In S w ty (cs.drop off)) := by
  intro ty
  have single : ∀ {ty : Ty}, (∀ a b, ty ≠ .pair a b) → (∀ (t fuel : Nat) (cs : List Value) (r : DataW H × List MemPlace), E.tys.lookup t = some ty → DataW.trod enc P w 0 sp held fuel t cs = some r → In S w ty cs) →
      (∀ (fs : List Field) (off n : Nat) (cs : List Value), FieldsOk S E fs ty off → cs.length = off + S.size ty →
      (∀ f ∈ fs, ∃ r : DataW H × List MemPlace, DataW.trod enc P w 0 sp held n f.type ((cs.drop f.offset).take (P.cellsOf f.type)) = some r) → In S w ty (cs.drop off)) := by
    intro ty hnp hm fs off n cs hf hl hr
    have key : ∀ f, FieldsOk S E [f] ty off → (∃ r : DataW H × List MemPlace, DataW.trod enc P w 0 sp held n f.type ((cs.drop f.offset).take (P.cellsOf f.type)) = some r) → In S w ty (cs.drop off) := by
      intro f hf1 ⟨r, hr⟩
      have hf2 : f.offset = off ∧ E.tys.lookup f.type = some ty ∧ 0 < S.size ty := by
        cases ty with
        | pair a b => exact absurd rfl (hnp a b)
        | _ => exact hf1
      obtain ⟨h1, h2, h3⟩ := hf2
      rw [h1, (lookup_cells T h2).1, List.take_of_length_le (by rw [List.length_drop]; omega)] at hr
      exact hm _ _ _ _ h2 hr
    match fs, hf, hr with
    | [f], hf, hr => exact key f hf (hr f (by simp))
    | [], hf, _ => cases ty <;> exact hf.elim
    | f :: g :: fs, hf, _ => cases ty with
      | pair a b => exact absurd rfl (hnp a b)
      | _ => exact hf.elim
  induction ty with
  | int k =>
    intro _
    refine ⟨?_, single (by intros; simp) ?_⟩ <;>
    · intro t fuel cs r ht h
      obtain ⟨n, rfl, _, hw⟩ := DataW.trod_int (T t _ ht).und h
      simp only [Lit.wf, Bool.and_eq_true, decide_eq_true_eq] at hw
      exact ⟨n, Cx.R_int.2 rfl, hw⟩
  | bool =>
    intro _
    refine ⟨?_, single (by intros; simp) ?_⟩ <;>
    · intro t fuel cs r ht h
      obtain ⟨b, rfl, _⟩ := DataW.trod_bool (T t _ ht).und h
      exact ⟨b, Cx.R_bool.2 rfl, trivial⟩
  | str =>
    intro _
    refine ⟨?_, single (by intros; simp) ?_⟩ <;>
    · intro t fuel cs r ht h
      obtain ⟨s, rfl, _, hs⟩ := DataW.trod_string (T t _ ht).und h
      exact ⟨s.data.toList, Cx.R_str.2 (by rw [str_eta]), by simpa [Wf] using hs⟩
  | slice e u ih =>
    intro hp
    have ih := (ih hp).1
    refine ⟨?_, single (by intros; simp) ?_⟩ <;>
    · intro t fuel cs r ht h
      obtain ⟨hu, he, hpos⟩ := (T t _ ht).und
      have hce := (lookup_cells T he).1
      rcases DataW.trod_slice hu h with ⟨rfl, _⟩ | ⟨a, len, cap, elems, rest, n, _, rfl, _, _, hlc, hcm, hel, hget, _⟩
      · exact ⟨[], Cx.R_slice.2 ⟨none, 0, rfl, Nat.le_refl _, fun i y hy => by simp [nth] at hy⟩, by simp [maxLen], fun y hy => by cases hy⟩
      · have hall : ∀ i, i < len → ∃ x : S.den u, Wf S u x ∧ a.spot = none ∧ ∃ cs', a.block < w.heap.size ∧ cellsAt w a.block (a.off + i * S.size u) (S.size u) = some cs' ∧ S.R w (fun b => b < w.heap.size) u cs' x := by
          intro i hi
          have hg := hget i hi
          rw [List.getElem?_eq_getElem (by omega), hce] at hg
          obtain ⟨cs', hc, ht'⟩ := Option.bind_eq_some_iff.1 hg
          obtain ⟨h1, h2, h3⟩ := cells_at hpos hc
          obtain ⟨x, hx, hw⟩ := ih e n cs' _ he ht'
          have h0 : a.spot = none := by
            have hg := hget 0 (by omega)
            rw [List.getElem?_eq_getElem (by omega), hce] at hg
            obtain ⟨cs0, hc0, _⟩ := Option.bind_eq_some_iff.1 hg
            have := (cells_at hpos hc0).1
            simpa [Addr.add] using this
          refine ⟨x, hw, h0, cs', ?_, ?_, hx⟩
          · have : (a.add (i * S.size u)).block = a.block := by unfold Addr.add; split <;> rfl
            rw [← this]; exact h2
          · have e1 : (a.add (i * S.size u)).block = a.block := by unfold Addr.add; split <;> rfl
            have e2 : (a.add (i * S.size u)).off = a.off + i * S.size u := by
              unfold Addr.add; split
              · omega
              · rfl
            rw [← e1, ← e2]; exact h3
        have hx : ∃ l : List (S.den u), l.length = len ∧ ∀ i x, l[i]? = some x → Wf S u x ∧ a.spot = none ∧ ∃ cs', a.block < w.heap.size ∧ cellsAt w a.block (a.off + i * S.size u) (S.size u) = some cs' ∧ S.R w (fun b => b < w.heap.size) u cs' x := by
          refine ⟨List.ofFn (n := len) (fun i => (hall i.1 i.2).choose), by simp, fun i x hi => ?_⟩
          rw [List.getElem?_ofFn] at hi
          split at hi
          · rename_i hlt
            cases hi
            exact (hall i hlt).choose_spec
          · cases hi
        obtain ⟨l, hl, hel2⟩ := hx
        subst hl
        refine ⟨l, Cx.R_slice.2 ⟨some a, cap, rfl, hlc, fun i y hy => ?_⟩, by simp only [maxLen] at *; omega, fun y hy => ?_⟩
        · obtain ⟨_, h0, cs', h1, h2, h3⟩ := hel2 i y hy
          refine ⟨a.block, a.off, cs', ?_, h1, h2, h3⟩
          cases a; simp only at h0; subst h0; rfl
        · obtain ⟨i, hi⟩ := List.getElem?_of_mem hy
          exact (hel2 i y hi).1
  | pair a b iha ihb =>
    intro hp
    simp only [plainTy, Bool.and_eq_true] at hp
    refine ⟨fun t fuel cs r ht _ => (T t _ ht).und.elim, ?_⟩
    intro fs off n cs hf hl hr
    match fs, hf, hr with
    | f :: g :: fs, hf, hr =>
      obtain ⟨h1, h2, h3, h4⟩ := hf
      have hl' : cs.length = off + (S.size a + S.size b) := hl
      obtain ⟨r, hr0⟩ := hr f (by simp)
      rw [h1, (lookup_cells T h2).1] at hr0
      obtain ⟨x, hx, hxw⟩ := (iha hp.1).1 _ _ _ _ h2 hr0
      obtain ⟨y, hy, hyw⟩ := (ihb hp.2).2 (g :: fs) (off + S.size a) n cs h4 (by omega) (fun f' hf' => hr f' (by simp at hf' ⊢; exact .inr hf'))
      refine ⟨(x, y), Cx.R_pair.2 ⟨(cs.drop off).take (S.size a), cs.drop (off + S.size a), ?_, ?_, hx, hy⟩, hxw, hyw⟩
      · rw [← List.drop_drop, List.take_append_drop]
      · rw [List.length_take, List.length_drop]; omega
    | [], hf, _ => exact hf.elim
    | [f], hf, _ => exact hf.elim
  | agg u ih =>
    intro hp
    have ih := (ih hp).2
    refine ⟨?_, single (by intros; simp) ?_⟩ <;>
    · intro t fuel cs r ht h
      rcases (T t _ ht).und with ⟨fs, hu, hf⟩ | ⟨k, v, e, rfl, hu, hl, hpos⟩
      case inr =>
        cases v with
        | int kk =>
          obtain ⟨xs, m, _, _, hcl, hxl, hget⟩ := DataW.trod_array hu h
          rw [(lookup_cells T ht).1] at hcl
          have hce : P.cellsOf e = 1 := (lookup_cells T hl).1
          have hsz : S.size (Ty.agg (.arr k (.int kk))) = k * 1 := rfl
          rw [hsz] at hcl
          have hall : ∀ i, i < k → ∃ x : Int, wfInt kk x ∧ (cs.drop (i * 1)).take 1 = [Value.int kk x] := by
            intro i hi
            have hg := hget i hi
            rw [List.getElem?_eq_getElem (by omega), hce] at hg
            obtain ⟨x, hx, _, hw⟩ := DataW.trod_int (T e _ hl).und hg
            simp only [Lit.wf, Bool.and_eq_true, decide_eq_true_eq] at hw
            exact ⟨x, hw, hx⟩
          have hx : ∃ l : List Int, l.length = k ∧ ∀ (i : Nat) (y : Int), l[i]? = some y → wfInt kk y ∧ (cs.drop (i * 1)).take 1 = [Value.int kk y] := by
            refine ⟨List.ofFn (n := k) (fun i => (hall i.1 i.2).choose), by simp, fun i x hi => ?_⟩
            rw [List.getElem?_ofFn] at hi
            split at hi
            · rename_i hlt
              cases hi
              exact (hall i hlt).choose_spec
            · cases hi
          obtain ⟨l, hll, hel⟩ := hx
          refine ⟨l, Cx.R_agg.2 (Cx.R_arr.2 ⟨hll, hcl, fun i y hy => Cx.R_int.2 (hel i y hy).2⟩), ?_⟩
          exact ⟨hll, fun y hy => by
            obtain ⟨i, hi⟩ := List.getElem?_of_mem hy
            exact (hel i y hi).1⟩
        | _ => cases hp
      obtain ⟨xs, n, _, _, hcl, hxl, hget⟩ := DataW.trod_struct hu h
      obtain ⟨x, hx, hw⟩ := ih fs.toList 0 n cs hf (by rw [hcl, (lookup_cells T ht).1]; simp [Nm.size]) (fun f hf => by
        obtain ⟨i, hi⟩ := List.getElem?_of_mem hf
        have hi' : fs[i]? = some f := by simpa using hi
        have := hget i f hi'
        have hlt : i < xs.length := by
          rw [hxl]; exact (Array.getElem?_eq_some_iff.1 hi').1
        rw [List.getElem?_eq_getElem hlt] at this
        exact ⟨_, this⟩)
      exact ⟨x, Cx.R_agg.2 hx, hw⟩
  | ptr n => intro h; cases h
  | named n => intro h; cases h
  | unit => intro h; cases h
  | arr n v ih =>
    intro hp
    refine ⟨fun t fuel cs r ht _ => (T t _ ht).und.elim, single (by intros; simp) (fun t fuel cs r ht _ => (T t _ ht).und.elim)⟩
  | box t ih => intro h; cases h
  | clo f t ih => intro h; cases h
  | map k v ihk ihv => intro h; cases h

/-- An argument reads as data. -/
theorem arg_in (T : TysOk P E) {w : World} {sp : Nat → Bool} {held : Bool} {t : Nat} {ty : Ty} {v : Value} {d : DataW H} {ps : List MemPlace} {rc : Reach} {b0 : Nat} (ht : E.tys.lookup t = some ty) (hp : plainTy ty = true)
    (hv : Value.okWide P w rc b0 t v) (h : DataW.Trod enc P w 0 sp held t v d ps) : ∃ x : S.den ty, (∃ cs, VS ty v cs ∧ S.R w (fun b => b < w.heap.size) ty cs x) ∧ Wf S ty x := by
  obtain ⟨fuel, h⟩ := h
  obtain ⟨x, hx, hw⟩ := (trod_both (enc := enc) T ty hp).1 t fuel _ _ ht h
  refine ⟨x, ⟨v.cells.toList, ?_, hx⟩, hw⟩
  have hund := (T t ty ht).und
  cases ty with
  | int k => obtain ⟨n, rfl⟩ := WideShapes.okWide_int hund hv; rfl
  | bool => obtain ⟨n, rfl⟩ := WideShapes.okWide_bool hund hv; rfl
  | str => obtain ⟨n, rfl⟩ := WideShapes.okWide_string hund hv; rfl
  | slice e u => obtain ⟨a, l, c, rfl⟩ := WideShapes.okWide_slice hund.1 hv; rfl
  | agg u =>
    rcases hund with ⟨fs, h1, _⟩ | ⟨_, _, _, _, h1, _⟩
    · obtain ⟨cs, rfl, _⟩ := WideShapes.okWide_struct h1 hv; simp [VS, Ty.isAgg, Value.cells]
    · simp only [Value.okWide, h1] at hv
      obtain ⟨cs, rfl, _⟩ := hv
      simp [VS, Ty.isAgg, Value.cells]
  | arr n t => exact hund.elim
  | box t => cases hp
  | clo f t => cases hp
  | map k v => cases hp
  | pair a b => exact hund.elim
  | ptr n => cases hp
  | named n => cases hp
  | unit => cases hp

/-- A function of given data that answers true: the call. -/
theorem calls_true {F : FSpec S.toNm} {f : Nat} {fn : Func} {w : World} {vs : List Value} {x : S.den (packTy (argT F.ps))} {r : S.den (resTy F.rt (outT (outs F.ps)))}
    (hF : FnOk P F f) (hf : P.funcs[f]? = some fn) (hb : fn.body.isSome = true) (hname : (fn.name == "runtime.NumGoroutine") = false) (hA : ArgsR S w (fun b => b < w.heap.size) (fun _ => none) ioBase F.ps vs x) (hr : F.f x = some r)
    (Q : Value → Prop) (hQ : ∀ v w' Z own, ResR w' Z own F v r.1 → Q v) (ho : F.o = none := by rfl) (hG : GlobR S w (fun b => b < w.heap.size) := by exact globR_nil rfl) : Calls P f vs.toArray w fun e w' => ∃ v, e = .returned v ∧ Q v ∧ Below w.heap.size w w' := by
  have := hF.zero ho w (fun b => b < w.heap.size) (fun _ => none) vs x r (fun b hb => ⟨hb, rfl⟩) (fun b hb => by simp at hb) hA hG hr
  have hnn : fn.body.isNone = false := by cases h : fn.body <;> simp_all
  have henter : (callFunc f vs.toArray).run P w = .ok (.enter f vs.toArray) w := by
    simp only [callFunc, Sem.run_bind, run_program, Result.andThen_ok, hf, hname, Bool.false_eq_true, if_false, hnn]
    rfl
  unfold Enters at this
  rw [henter] at this
  refine Calls.mono this fun e w' ⟨v, he, own', hL, hR, _⟩ => ⟨v, he, hQ v w' _ _ hR, hL.os, hL.tape, hL.output, hL.size, fun b hb => hL.block b hb rfl⟩
theorem wf_i64 {S : Cx} {n : Int} (h : Wf S (.int .i64) n) : -9223372036854775808 ≤ n ∧ n < 9223372036854775808 := by
  have h : wfInt .i64 n := h
  simp only [wfInt, IntKind.min, IntKind.max, IntKind.signed, IntKind.bits] at h
  simp at h; omega
theorem wf_u8 {S : Cx} {n : Int} (h : Wf S (.int .u8) n) : 0 ≤ n ∧ n < 256 := by
  have h : wfInt .u8 n := h
  simp only [wfInt, IntKind.min, IntKind.max, IntKind.signed, IntKind.bits] at h
  simp at h; omega
theorem wf_u16 {S : Cx} {n : Int} (h : Wf S (.int .u16) n) : 0 ≤ n ∧ n < 65536 := by
  have h : wfInt .u16 n := h
  simp only [wfInt, IntKind.min, IntKind.max, IntKind.signed, IntKind.bits] at h
  simp at h; omega
end
end Go.Proofs.YtpmlimdilajidaaDoor.Vm
