/- A reader of the model s code over plain data, and that it is right of the machine (2). -/
import Derived.Test.YtdnkjfmneppkoaaVm1
import Derived.MapKept
import Derived.WideKeyRuns
import Derived.Laws.IdiomStrings
import Derived.Laws.AppendOwn
namespace Go.Proofs.Ytdnkjfmneppkoaa.Vm
open Go Go.RowKit
set_option linter.unusedVariables false
section
variable {S : Cx} {α : Type} {g : Gl S} {own : Nat → Option Own} {st : ST S} {a : Act} {w : World}
theorem Rel.asMem (h : Rel g own st a w) (hn : Hint) {d : Nat} (hpin : g.pin d = none) (hd : d < a.tmps.size) {c : MV S.toNm} {b0 : Nat} {cells : Array Value} {e : TypeId} (hb0 : own b0 = some (.lim, none))
    (hcell : w.heap[b0]? = some (.cells cells e (0, 0))) (hO : S.OW w own (g.Z own w) .lim c.t c.m [] cells.toList c.x) :
    ∃ own', Rel g own' (st.newMem hn d c) (a.put (some d) (.pointer (some ⟨b0, 0, none⟩))) w := by
  let own1 := relab own .lim [] (.mem d) []
  have hnone1 : ∀ b, own b = none → own1 b = none := fun b hb => by
    show relab own .lim [] (.mem d) [] b = none
    rw [relab_ne (by rintro ⟨s, e⟩; rw [hb] at e; cases e)]; exact hb
  have h1 : Rel g own1 st a w := h.lim fun b => by
    by_cases hb : ∃ s, own b = some (.lim, some ([] ++ s))
    · obtain ⟨s, hb⟩ := hb
      refine .inr ⟨⟨_, hb⟩, ?_, fun k => ?_⟩ <;> rw [show own1 b = _ from relab_at hb] <;> simp
    · exact .inl (relab_ne hb)
  have hb1 : own1 b0 = some (.lim, none) := by
    show relab own .lim [] (.mem d) [] b0 = _
    rw [relab_ne (by rintro ⟨s, e⟩; rw [hb0] at e; cases e)]; exact hb0
  have hO1 : S.OW w own1 (g.Z own1 w) (.mem d) c.t c.m [] cells.toList c.x :=
    OW_frame (fun b hb => ⟨hb.1, hb.2.1, hnone1 b hb.2.2⟩) (fun _ _ => rfl) _ _ _ _ _ _ (fun b q hb => ⟨relab_at hb, rfl⟩) hO
  let own2 : Nat → Option Own := fun b => if b = b0 then some (.mem d, none) else if own1 b = some (.mem d, none) then some (.lim, none) else own1 b
  have o_new : own2 b0 = some (.mem d, none) := by simp [own2]
  have o_old : ∀ b, b ≠ b0 → own1 b ≠ some (.mem d, none) → own2 b = own1 b := fun b hb hne => by simp [own2, hb, hne]
  have o_none : ∀ b, own1 b = none → own2 b = none := fun b hb => by
    rw [o_old b (fun e => by rw [e, hb1] at hb; cases hb) (by rw [hb]; simp)]; exact hb
  have o_some : ∀ b r q, own1 b = some (r, some q) → own2 b = some (r, some q) := fun b r q hb => by
    rw [o_old b (fun e => by rw [e, hb1] at hb; cases hb) (by rw [hb]; simp), hb]
  have o_mem : ∀ k b, k ≠ d → own1 b = some (.mem k, none) → own2 b = some (.mem k, none) := fun k b hk hb => by
    rw [o_old b (fun e => by rw [e, hb1] at hb; cases hb) (by rw [hb]; simpa using hk), hb]
  have o_mem' : ∀ k b, k ≠ d → own2 b = some (.mem k, none) → own1 b = some (.mem k, none) := fun k b hk hb => by
    simp only [own2] at hb
    split at hb
    · simp at hb; exact absurd hb.symm hk
    · split at hb
      · simp at hb
      · exact hb
  have o_d : ∀ b, own2 b = some (.mem d, none) → b = b0 := fun b hb => by
    simp only [own2] at hb
    split at hb
    · assumption
    · split at hb
      · simp at hb
      · rename_i hne; exact absurd hb hne
  have o_ne : ∀ b, own2 b ≠ none → own1 b ≠ none := fun b hb e => hb (o_none b e)
  have hZ : ∀ b, g.Z own1 w b → g.Z own2 w b := fun b hb => ⟨hb.1, hb.2.1, o_none b hb.2.2⟩
  have hOW : ∀ {r : Root} {t : Ty} {m : Mode} {p : Path} {cs' : List Value} {x : S.den t}, S.OW w own1 (g.Z own1 w) r t m p cs' x →
      S.OW w own2 (g.Z own2 w) r t m p cs' x := fun hO => OW_frame hZ (fun _ _ => rfl) _ _ _ _ _ _ (fun b q hb => ⟨o_some b _ _ hb, rfl⟩) hO
  let st2 : ST S := { st.drop (.mem d) with mems := upd st.mems d c }
  have hlook : ∀ i, st2.look i = .dead ∨ (st2.look i = st.look i ∧ (st.look i).rooted (.mem d) = false) := fun i => by
    have e : st2.look i = (st.drop (.mem d)).look i := rfl
    rw [e, St.drop, look_killBy _ _ _ rfl]
    cases hh : (st.look i).rooted (.mem d)
    · exact .inr ⟨rfl, rfl⟩
    · exact .inl rfl
  have hroot : ∀ r, r ≠ .mem d → st2.root r = st.root r := fun r hr => by
    cases r with
    | slot s =>
      have : st2.root (.slot s) = (st.drop (.mem d)).root (.slot s) := rfl
      rw [this]; exact root_killBy st _ (fun _ _ _ => rfl) rfl _
    | mem k =>
      have hk : k ≠ d := fun e => hr (by rw [e])
      simp only [St.root, st2, lookup_upd, if_neg hk]
    | lim => rfl
  have hrd : st2.root (.mem d) = some c := by simp [St.root, st2, lookup_upd]
  have hplace : ∀ {r p l cs' c'}, r ≠ .mem d → Place st own1 a w r p l cs' c' → Place st2 own2 a w r p l cs' c' := fun hr hp =>
    Place_own hp (hroot _ hr) (fun _ _ => rfl) (fun k b he hb => o_mem k b (fun e => hr (by rw [he, e])) hb)
  have hrel : Rel g own2 st2 a w := by
    refine ⟨h1.os, h1.tape, h1.output, h1.size, h1.block, fun b hb => h1.fresh b (o_ne b hb), fun i => ?_, fun k c' hk => ?_, h1.defs, fun k b b' hp hb => h1.pins k b b' hp (o_mem' k b' (fun e => by rw [e, hpin] at hp; cases hp) hb)⟩
    · rcases hlook i with e' | ⟨e', hr⟩
      · rw [e']; trivial
      · rw [e']
        have hv := h1.vals i
        generalize st.look i = A at *
        cases A with
        | dead => trivial
        | und => exact hv
        | v t m y => obtain ⟨cs', e1, e2⟩ := hv; exact ⟨cs', e1, hOW e2⟩
        | tup t m y => obtain ⟨vs, e1, e2⟩ := hv; exact ⟨vs, e1, TupR_frame hZ (fun _ _ => rfl) _ _ _ e2⟩
        | rp t y =>
          obtain ⟨b, off, cs', e1, e2, e3, e4⟩ := hv
          exact ⟨b, off, cs', e1, hZ b e2, e3, e4.frame hZ (fun _ _ => rfl)⟩
        | ref r p =>
          obtain ⟨l, cs', c', e1, e2⟩ := hv
          exact ⟨l, cs', c', hplace (fun e => by subst e; simp [AVal.rooted] at hr) e1, e2⟩
        | addr r p =>
          obtain ⟨b, off, cs', c', e1, e2⟩ := hv
          exact ⟨b, off, cs', c', hplace (fun e => by subst e; simp [AVal.rooted] at hr) e1, e2⟩
        | fn g' cs' =>
          obtain ⟨vs, f1, f2⟩ := hv
          refine ⟨vs, f1, f2.mono fun c hcm v hc => ?_⟩
          cases c with
          | d t' y =>
            obtain ⟨b, off, cs', e1, e2, e3, e4⟩ := hc
            exact ⟨b, off, cs', e1, hZ b e2, e3, e4.frame hZ (fun _ _ => rfl)⟩
          | m k =>
            obtain ⟨b, off, cs', c', e1, e2⟩ := hc
            exact ⟨b, off, cs', c', hplace (cap_rooted hr hcm) e1, e2⟩
    · by_cases hkd : k = d
      · subst hkd
        have : c' = c := by
          have hk' : st2.root (.mem k) = some c' := hk
          rw [hrd] at hk'; exact (Option.some.inj hk').symm
        subst this
        exact ⟨b0, e, cells, o_new, hcell, hOW hO1, o_d⟩
      · have hk' : st2.root (.mem k) = some c' := hk
        rw [hroot _ (by simpa using hkd)] at hk'
        obtain ⟨b, e', cells, g1, g2, g3, g4⟩ := h1.mems k c' hk'
        exact ⟨b, e', cells, o_mem k b hkd g1, g2, hOW g3, fun b' hb' => g4 b' (o_mem' k b' hkd hb')⟩
  refine ⟨own2, ?_⟩
  have : st.newMem hn d c = st2.put hn d (.addr (.mem d) []) := rfl
  rw [this]
  refine hrel.put hn hd ⟨b0, 0, cells.toList, c, ?_, rfl⟩
  refine ⟨c.t, c.m, c.x, some (b0, 0), cells.toList, ?_, (fun s hs => by cases hs), ⟨b0, e, cells, rfl, o_new, hcell, rfl⟩, okP_nil, nav_nil, getP_nil⟩
  have : (st2.put hn d (.addr (.mem d) [])).root (.mem d) = st2.root (.mem d) := by simp only [St.root, put_mems]
  rw [this, hrd]
noncomputable def limmem (own : Nat → Option Own) (k : Nat) : Nat → Option Own := fun b => match own b with
  | some (.mem i, q) => if i = k then some (.lim, q) else some (.mem i, q)
  | o => o
theorem limmem_at {own : Nat → Option Own} {k b : Nat} {q : Option Path} (h : own b = some (.mem k, q)) : limmem own k b = some (.lim, q) := by simp only [limmem, h, if_pos]
theorem limmem_ne {own : Nat → Option Own} {k b : Nat} (h : ∀ q, own b ≠ some (.mem k, q)) : limmem own k b = own b := by
  unfold limmem
  split
  · rename_i i q e
    rw [if_neg (fun hi => h q (by rw [e, hi]))]; exact e.symm
  · rfl
theorem limmem_none {own : Nat → Option Own} {k b : Nat} (h : own b = none) : limmem own k b = none := by
  rw [limmem_ne (fun q e => by rw [h] at e; cases e)]; exact h
theorem limmem_keep {own : Nat → Option Own} {k b : Nat} {r : Root} {q : Option Path} (h : own b = some (r, q)) (hr : r ≠ .mem k) : limmem own k b = some (r, q) := by
  rw [limmem_ne (fun q' e => by rw [h] at e; exact hr (Prod.mk.inj (Option.some.inj e)).1)]; exact h
theorem limmem_inv {own : Nat → Option Own} {k b i : Nat} {q : Option Path} (h : limmem own k b = some (.mem i, q)) : own b = some (.mem i, q) := by
  by_cases he : ∃ q, own b = some (.mem k, q)
  · obtain ⟨q', he⟩ := he
    rw [limmem_at he] at h; cases h
  · rw [limmem_ne (fun q e => he ⟨q, e⟩)] at h; exact h
theorem limmem_some {own : Nat → Option Own} {k b : Nat} (h : limmem own k b ≠ none) : own b ≠ none := fun e => h (limmem_none e)
theorem Rel.limLess (h : Rel g own st a w) (k : Nat) : Rel g (limmem own k) (st.less k) a w := by
  have hZ : ∀ b', g.Z own w b' → g.Z (limmem own k) w b' := fun b' hb => ⟨hb.1, hb.2.1, limmem_none hb.2.2⟩
  have hlook : ∀ i, (st.less k).look i = .dead ∨ ((st.less k).look i = st.look i ∧ (st.look i).rooted (.mem k) = false) := fun i => by
    have e : (st.less k).look i = (st.drop (.mem k)).look i := rfl
    rw [e, St.drop, look_killBy _ _ _ rfl]
    cases hh : (st.look i).rooted (.mem k)
    · exact .inr ⟨rfl, rfl⟩
    · exact .inl rfl
  have hroot : ∀ r, r ≠ .mem k → (st.less k).root r = st.root r := fun r hr => by
    cases r with
    | slot s =>
      have : (st.less k).root (.slot s) = (st.drop (.mem k)).root (.slot s) := rfl
      rw [this]; exact root_killBy st _ (fun _ _ _ => rfl) rfl _
    | mem k' =>
      have hk' : k' ≠ k := fun e => hr (by rw [e])
      simp only [St.root, St.less, lookup_less, if_neg hk']
    | lim => rfl
  have hplace : ∀ {r p l cs' c'}, r ≠ .mem k → Place st own a w r p l cs' c' → Place (st.less k) (limmem own k) a w r p l cs' c' := fun hr hp =>
    Place_own hp (hroot _ hr) (fun _ _ => rfl) (fun k' b he hb' => limmem_keep hb' (by rw [← he]; exact hr))
  refine ⟨h.os, h.tape, h.output, h.size, h.block, fun b' hb' => h.fresh b' (limmem_some hb'), fun i => ?_, fun k' c' hk' => ?_, h.defs, fun k' b1 b2 hp hb2 => h.pins k' b1 b2 hp (limmem_inv hb2)⟩
  · rcases hlook i with e | ⟨e, hr⟩
    · rw [e]; trivial
    · rw [e]
      have hv := h.vals i
      generalize st.look i = A at *
      cases A with
      | dead => trivial
      | und => exact hv
      | v t m y =>
        obtain ⟨cs', e1, e2⟩ := hv
        exact ⟨cs', e1, OW_frame hZ (fun _ _ => rfl) _ _ _ _ _ _ (fun b' q hb' => ⟨limmem_keep hb' (by simp), rfl⟩) e2⟩
      | tup t m y => obtain ⟨vs, e1, e2⟩ := hv; exact ⟨vs, e1, TupR_frame hZ (fun _ _ => rfl) _ _ _ e2⟩
      | rp t y =>
        obtain ⟨b', off', cs', e1, e2, e3, e4⟩ := hv
        exact ⟨b', off', cs', e1, hZ b' e2, e3, e4.frame hZ (fun _ _ => rfl)⟩
      | ref r p =>
        obtain ⟨l, cs', c', e1, e2⟩ := hv
        exact ⟨l, cs', c', hplace (fun e => by subst e; simp [AVal.rooted] at hr) e1, e2⟩
      | addr r p =>
        obtain ⟨b', off', cs', c', e1, e2⟩ := hv
        exact ⟨b', off', cs', c', hplace (fun e => by subst e; simp [AVal.rooted] at hr) e1, e2⟩
      | fn g' cs' =>
        obtain ⟨vs, f1, f2⟩ := hv
        refine ⟨vs, f1, f2.mono fun c hcm v hc => ?_⟩
        cases c with
        | d t' y =>
          obtain ⟨b', off', cs', e1, e2, e3, e4⟩ := hc
          exact ⟨b', off', cs', e1, hZ b' e2, e3, e4.frame hZ (fun _ _ => rfl)⟩
        | m k =>
          obtain ⟨b', off', cs', c', e1, e2⟩ := hc
          exact ⟨b', off', cs', c', hplace (cap_rooted hr hcm) e1, e2⟩
  · have hkk : k' ≠ k := fun e => by subst e; simp [St.less, lookup_less] at hk'
    have hk'' : st.mems.lookup k' = some c' := by simpa [St.less, lookup_less, hkk] using hk'
    obtain ⟨b', e', cells', g1', g2', g3', g4'⟩ := h.mems k' c' hk''
    have hne : Root.mem k' ≠ .mem k := by simpa using hkk
    exact ⟨b', e', cells', limmem_keep g1' hne, g2', OW_frame hZ (fun _ _ => rfl) _ _ _ _ _ _ (fun b'' q hb'' => ⟨limmem_keep hb'' hne, rfl⟩) g3', fun b'' hb'' => g4' b'' (limmem_inv hb'')⟩
theorem Rel.limCallP (h : Rel g own st a w) {w' : World} {own' : Nat → Option Own} (B0 : Nat → Prop) (hos : w'.os = w.os) (htape : w'.tape = w.tape) (hout : w'.output = w.output) (hsize : w.heap.size ≤ w'.heap.size)
    (hb0 : ∀ b, B0 b → ∃ q, own b = some (.lim, q)) (hblk : ∀ b, b < w.heap.size → ¬ B0 b → w'.heap[b]? = w.heap[b]?)
    (hown : ∀ b, b < w.heap.size → own' b = own b) (hnew : ∀ b, w.heap.size ≤ b → own' b ≠ none → b < w'.heap.size ∧ ∃ q, own' b = some (.lim, q)) : Rel g own' (st.killBy AVal.deep) a w' := by
  have hlt : ∀ b, own b ≠ none → b < w.heap.size := fun b hb => (h.fresh b hb).2
  have hso : ∀ b r q, own b = some (r, q) → own' b = some (r, q) := fun b r q hb => by rw [hown b (hlt b (by rw [hb]; simp))]; exact hb
  have hnot : ∀ b, (∀ q, own b ≠ some (.lim, q)) → ¬ B0 b := fun b hb e => by obtain ⟨q, hq⟩ := hb0 b e; exact hb q hq
  have hZ : ∀ b, g.Z own w b → g.Z own' w' b := fun b hb => ⟨hb.1, Nat.lt_of_lt_of_le hb.2.1 hsize, by rw [hown b hb.2.1]; exact hb.2.2⟩
  have hZw : ∀ b, g.Z own w b → w'.heap[b]? = w.heap[b]? := fun b hb => hblk b hb.2.1 (hnot b (fun q e => by rw [hb.2.2] at e; cases e))
  have hne : ∀ b' r q', own b' = some (r, q') → r ≠ .lim → w'.heap[b']? = w.heap[b']? := fun b' r q' hb' hr => hblk b' (hlt b' (by rw [hb']; simp)) (hnot b' (fun q e => by
    rw [hb'] at e; exact hr (Prod.mk.inj (Option.some.inj e)).1))
  have hmem : ∀ k b, own' b = some (.mem k, none) → own b = some (.mem k, none) := fun k b hb => by
    by_cases hbw : b < w.heap.size
    · rw [← hown b hbw]; exact hb
    · obtain ⟨_, q, e⟩ := hnew b (by omega) (by rw [hb]; simp)
      rw [hb] at e; cases e
  have hroot : ∀ r', (st.killBy AVal.deep).root r' = st.root r' := fun r' => root_killBy st _ (fun _ _ _ => rfl) rfl r'
  have hRoot : ∀ r' t l cs', RootAt own a w r' t l cs' → RootAt own' a w' r' t l cs' := fun r' t l cs' hR => by
    cases r' with
    | slot s => exact hR
    | lim => exact hR
    | mem k =>
      obtain ⟨b', e', cl, f1, f2, f3, f4⟩ := hR
      exact ⟨b', e', cl, f1, hso _ _ _ f2, by rw [hne b' _ _ f2 (by simp)]; exact f3, f4⟩
  have hOW : ∀ {r : Root} {t : Ty} {m : Mode} {p : Path} {cs' : List Value} {x : S.den t}, r ≠ .lim → S.OW w own (g.Z own w) r t m p cs' x → S.OW w' own' (g.Z own' w') r t m p cs' x := fun hr hO =>
    OW_frame hZ hZw _ _ _ _ _ _ (fun b' q' hb' => ⟨hso _ _ _ hb', hne b' _ _ hb' hr⟩) hO
  refine ⟨hos.trans h.os, htape.trans h.tape, hout.trans h.output, Nat.le_trans h.size hsize, fun b' hb' hio => ?_, fun b' hb' => ?_, fun i => ?_, fun k c hk => ?_, h.defs, fun k b b' hp hb => h.pins k b b' hp (hmem k b' hb)⟩
  · refine (hblk b' (Nat.lt_of_lt_of_le hb' h.size) fun e => ?_).trans (h.block b' hb' hio)
    obtain ⟨q, hq⟩ := hb0 b' e
    rcases (h.fresh b' (by rw [hq]; simp)).1 with hf | hf
    · omega
    · exact hio hf
  · by_cases hbw : b' < w.heap.size
    · have : own b' ≠ none := by rw [← hown b' hbw]; exact hb'
      exact ⟨(h.fresh b' this).1, Nat.lt_of_lt_of_le hbw hsize⟩
    · exact ⟨.inl (Nat.le_trans h.size (by omega)), (hnew b' (by omega) hb').1⟩
  · rw [look_killBy _ _ _ rfl]
    have hv := h.vals i
    cases hd : (st.look i).deep
    · simp only
      generalize st.look i = A at *
      cases A with
      | dead => trivial
      | und => exact hv
      | v t' m'' y =>
        obtain ⟨cs', e1, e2⟩ := hv
        exact ⟨cs', e1, hOW (by simp) e2⟩
      | tup t' m'' y =>
        obtain ⟨vs, e1, e2⟩ := hv
        exact ⟨vs, e1, TupR_frame hZ hZw _ _ _ e2⟩
      | rp t' y =>
        obtain ⟨b', off', cs', e1, e2, e3, e4⟩ := hv
        exact ⟨b', off', cs', e1, hZ b' e2, by rw [cellsAt_same (hZw b' e2)]; exact e3, e4.frame hZ hZw⟩
      | ref r' p' =>
        obtain ⟨l1, cs1, c1, e1, e2⟩ := hv
        exact ⟨l1, cs1, c1, Place_world e1 (by simpa [AVal.deep] using hd) (hroot r') (hRoot r'), e2⟩
      | addr r' p' =>
        obtain ⟨b', off', cs1, c1, e1, e2⟩ := hv
        exact ⟨b', off', cs1, c1, Place_world e1 (by simpa [AVal.deep] using hd) (hroot r') (hRoot r'), e2⟩
      | fn g' cs' =>
        obtain ⟨vs, f1, f2⟩ := hv
        refine ⟨vs, f1, f2.mono fun c hcm v hc => ?_⟩
        cases c with
        | d t' y =>
          obtain ⟨b', off', cs', e1, e2, e3, e4⟩ := hc
          exact ⟨b', off', cs', e1, hZ b' e2, by rw [cellsAt_same (hZw b' e2)]; exact e3, e4.frame hZ hZw⟩
        | m k =>
          obtain ⟨b', off', cs1, c1, e1, e2⟩ := hc
          exact ⟨b', off', cs1, c1, Place_world e1 rfl (hroot _) (hRoot _), e2⟩
    · trivial
  · obtain ⟨b', e, cells, g1, g2, g3, g4⟩ := h.mems k c hk
    exact ⟨b', e, cells, hso _ _ _ g1, by rw [hne b' _ _ g1 (by simp)]; exact g2, hOW (by simp) g3, fun b'' hb'' => g4 b'' (hmem k b'' hb'')⟩
theorem Rel.limCall (h : Rel g own st a w) {w' : World} {own' : Nat → Option Own} (b0 : Option Nat) (hos : w'.os = w.os) (htape : w'.tape = w.tape) (hout : w'.output = w.output) (hsize : w.heap.size ≤ w'.heap.size)
    (hb0 : ∀ b, b0 = some b → ∃ q, own b = some (.lim, q)) (hblk : ∀ b, b < w.heap.size → b0 ≠ some b → w'.heap[b]? = w.heap[b]?)
    (hown : ∀ b, b < w.heap.size → own' b = own b) (hnew : ∀ b, w.heap.size ≤ b → own' b ≠ none → b < w'.heap.size ∧ ∃ q, own' b = some (.lim, q)) : Rel g own' (st.killBy AVal.deep) a w' :=
  h.limCallP (fun b => b0 = some b) hos htape hout hsize hb0 hblk hown hnew
theorem Rel.loses : ∀ (ks : List Nat) {st : ST S} {own : Nat → Option Own} (_ : Rel g own st a w), ∃ own', Rel g own' (st.lose ks) a w ∧ (∀ b k q, own b = some (.mem k, q) → k ∈ ks → own' b = some (.lim, q)) ∧ ∀ b q, own b = some (.lim, q) → own' b = some (.lim, q)
  | [], st, own, h => ⟨own, h, (fun _ _ _ _ hk => by cases hk), fun _ _ h => h⟩
  | k :: ks, st, own, h => by
    obtain ⟨own', h1, h2, h3⟩ := Rel.loses ks (h.limLess k)
    refine ⟨own', h1, fun b k' q hb hk => ?_, fun b q hb => h3 b q (limmem_keep hb (by simp))⟩
    by_cases e : k' = k
    · subst e; exact h3 b q (limmem_at hb)
    · rcases List.mem_cons.1 hk with e' | hk
      · exact absurd e' e
      · exact h2 b k' q (limmem_keep hb (by simpa using e)) hk
end
end Go.Proofs.Ytdnkjfmneppkoaa.Vm
namespace Go.Proofs.Ytdnkjfmneppkoaa.Vm
open Go Go.RowKit
set_option linter.unusedVariables false
section
variable {S : Cx} {α : Type} {g : Gl S} {own : Nat → Option Own} {st : ST S} {a : Act} {w : World}
theorem run_checkKey_int {P : Program} {e : TypeId} {kk k : IntKind} {z : Int} (hu : P.underlying e = some (.int kk)) (em : Bool) (d : Nat) (w : World) : (Instr.checkKey em (d + 1) e (.int k z)).run P w = .ok () w := by
  simp [Instr.checkKey, run_underlying hu]
theorem run_checkKey_arr {P : Program} {E : Env S} (T : TysOk P E) {kt e n : Nat} {kk : IntKind} (hu : P.underlying kt = some (.array n e)) (he : E.tys.lookup e = some (.int kk)) (em : Bool) (d : Nat) {x : List Int} {cs : List Value} {w0 : World} {Z : Nat → Prop}
    (r : S.R w0 Z (.arr n (.int kk)) cs x) (w : World) : (Instr.checkKey em (d + 2) kt (.agg cs.toArray)).run P w = .ok () w := by
  obtain ⟨a1, a2, a3⟩ := Cx.R_arr.1 r
  have hs : S.size (.int kk) = 1 := rfl
  rw [hs] at a2 a3
  have tff := T _ _ he
  have hpart : ∀ (i : Nat) (w : World), i < n → (part e cs.toArray (i * 1)).run P w = .ok (.int kk (x.getD i 0)) w := fun i w hi => by
    have pa := run_partAt (S := S) tff w cs (i * 1) (by rw [hs, a2]; omega)
    rw [hs, Cx.R_int.1 (a3 i (x.getD i 0) (getD_nth (l := x) 0 (a1.symm ▸ hi)))] at pa
    exact pa
  unfold Instr.checkKey
  simp only [Sem.run_bind, run_underlying hu, Result.andThen_ok]
  simp only [Std.Legacy.Range.forIn_eq_forIn_range', Std.Legacy.Range.size, Nat.sub_zero, Nat.add_one_sub_one, Nat.div_one]
  have hr : ∀ i ∈ List.range' 0 n, i < n := fun i hi => by simp at hi; omega
  generalize List.range' 0 n = is at hr
  induction is with
  | nil => rfl
  | cons i is ih =>
    have h1 := hpart i w (hr i (List.mem_cons_self ..))
    simp only [List.forIn_cons, Sem.run_bind, tff.size w, hs, Result.andThen_ok, h1, run_checkKey_int tff.und]
    exact ih (fun j hj => hr j (List.mem_cons_of_mem _ hj))
theorem run_find {P : Program} {E : Env S} (ok : S.Ok) (T : TysOk P E) {kt : Nat} {k v : Ty} (hk : k.isKey = true) (hl : E.tys.lookup kt = some k) (y : S.den k) (kc : List Value) {w0 : World} (hy : S.R w0 (fun _ => False) k kc y) :
    ∀ (es : List MapEntry) (l : List (S.den k × S.den v)) (i0 : Nat), S.Ents w0 k v es l →
    ∃ res, (∀ w, (Instr.findAsking kt (.agg kc.toArray) es i0).run P w = .ok res w) ∧
      ((res = none ∧ findM (S.eqB k) y l = none ∧ ∀ b, putM (S.eqB k) y b l = l ++ [(y, b)]) ∨
       ∃ i e x, es[i]? = some e ∧ nth l i = some x ∧ res = some (i0 + i, e.val) ∧ S.eqB k y x.1 = true ∧ findM (S.eqB k) y l = some x.2 ∧ ∀ b, putM (S.eqB k) y b l = l.set i (y, b)) := by
  obtain ⟨n, kk, rfl⟩ : ∃ n kk, k = .agg (.arr n (.int kk)) := by
    cases k with
    | agg t => cases t with
      | arr n e => cases e with
        | int kk => exact ⟨n, kk, rfl⟩
        | _ => cases hk
      | _ => cases hk
    | _ => cases hk
  intro es
  induction es with
  | nil =>
    intro l i0 h
    have : l = [] := by
      have := h.1
      simp at this
      exact List.eq_nil_of_length_eq_zero this.symm
    subst this
    exact ⟨none, fun _ => rfl, .inl ⟨rfl, rfl, fun b => rfl⟩⟩
  | cons e es ih =>
    intro l i0 h
    match l, h with
    | [], h => have := h.1; simp at this
    | x :: l, h =>
      obtain ⟨⟨c1, b1, b2⟩, _⟩ := h.2 0 e x rfl rfl
      have hkey : e.key = .agg c1.toArray := b1
      have heq' : ∀ w, (Op.equal kt (.agg kc.toArray) (.agg c1.toArray)).run P w = .ok (S.eqB (.agg (.arr n (.int kk))) y x.1) w := fun w =>
        run_eqIn (P := P) (E := E) ok T (.agg (.arr n (.int kk))) Op.maxDepth kt y x.1 kc c1 w w0 (fun _ => False) rfl hl (by show 2 ≤ 10000; omega) hy b2
      have htl : S.Ents w0 (.agg (.arr n (.int kk))) v es l := ⟨by have := h.1; simpa using this, fun i e' x' he hx => h.2 (i + 1) e' x' (by simpa using he) (by simpa [nth] using hx)⟩
      simp only [Instr.findAsking, hkey, Sem.run_bind, heq', Result.andThen_ok]
      cases hb : S.eqB (.agg (.arr n (.int kk))) y x.1 with
      | true => exact ⟨some (i0, e.val), fun _ => rfl, .inr ⟨0, e, x, rfl, rfl, rfl, hb, by simp only [findM, hb], fun b => by simp only [putM, hb, List.set_cons_zero]⟩⟩
      | false =>
        obtain ⟨res, r1, r2⟩ := ih l (i0 + 1) htl
        refine ⟨res, fun w => by simpa using r1 w, ?_⟩
        rcases r2 with ⟨q1, q2, q3⟩ | ⟨i, e', x', q1, q2, q3, q4, q5, q6⟩
        · exact .inl ⟨q1, by simp only [findM, hb]; exact q2, fun b => by simp only [putM, hb]; rw [q3]; rfl⟩
        · exact .inr ⟨i + 1, e', x', by simpa using q1, by simpa [nth] using q2, by rw [q3]; congr 2; omega, q4, by simp only [findM, hb]; exact q5, fun b => by simp only [putM, hb]; rw [q6]; rfl⟩
theorem key_parts {P : Program} {E : Env S} (T : TysOk P E) {kt : Nat} {k : Ty} (hk : k.isKey = true) (hl : E.tys.lookup kt = some k) : ∃ n e kk, k = .agg (.arr n (.int kk)) ∧ P.underlying kt = some (.array n e) ∧ E.tys.lookup e = some (.int kk) := by
  cases k with
  | agg t => cases t with
    | arr n e => cases e with
      | int kk =>
        rcases (T _ _ hl).und with ⟨fs, _, hf⟩ | ⟨n', v, e', heq, hu, he, _⟩
        · exact (arr_struct T hf).elim
        · cases heq; exact ⟨n, e', kk, rfl, hu, he⟩
      | _ => cases hk
    | _ => cases hk
  | _ => cases hk
theorem scalar_R' {w w' : World} {Z Z' : Nat → Prop} : ∀ (t : Ty) (cs : List Value) (x : S.den t), t.scalar = true → S.R w Z t cs x → S.R w' Z' t cs x := by
  intro t
  induction t with
  | int k => intro cs x _ h; exact Cx.R_int.2 (Cx.R_int.1 h)
  | bool => intro cs x _ h; exact Cx.R_bool.2 (Cx.R_bool.1 h)
  | str => intro cs x _ h; exact Cx.R_str.2 (Cx.R_str.1 h)
  | unit => intro cs x _ h; exact Cx.R_unit.2 (Cx.R_unit.1 h)
  | pair a b iha ihb =>
    intro cs x hs h
    simp only [Ty.scalar, Bool.and_eq_true] at hs
    obtain ⟨c1, c2, h1, h2, h3, h4⟩ := Cx.R_pair.1 h
    exact Cx.R_pair.2 ⟨c1, c2, h1, h2, iha _ _ hs.1 h3, ihb _ _ hs.2 h4⟩
  | agg t ih => intro cs x hs h; exact Cx.R_agg.2 (ih _ _ hs (Cx.R_agg.1 h))
  | _ => intro cs x hs _; cases hs
theorem key_R {w w' : World} {Z Z' : Nat → Prop} {k : Ty} {cs : List Value} {x : S.den k} (hk : k.isKey = true) (h : S.R w Z k cs x) : S.R w' Z' k cs x := by
  cases k with
  | agg t => cases t with
    | arr n e => cases e with
      | int kk =>
        obtain ⟨h1, h2, h3⟩ := Cx.R_arr.1 (Cx.R_agg.1 h)
        exact Cx.R_agg.2 (Cx.R_arr.2 ⟨h1, h2, fun i y hy => Cx.R_int.2 (Cx.R_int.1 (h3 i y hy))⟩)
      | _ => cases hk
    | _ => cases hk
  | _ => cases hk
theorem run_zeroValue' {P : Program} {t : Nat} {i : TypeInfo} {z : Value} (h1 : P.info? t = some i) (h2 : i.zero = some z) (w : World) : (zeroValue t).run P w = .ok z w := by
  simp [zeroValue, typeInfo, h1, h2]
theorem do_makeMap {o : Oper} {t : TypeId} {res : Option Operand} {hn : Hint} {κ π : ST S → Option α} {r : α} (ok : S.Ok) (h : Rel g own st a w) (hd : ∀ d, o.dst = some d → d < a.tmps.size)
    (ho : o.op = .makeMap t res) (hκ : opK π g.E hn o st κ = some r) : Do g true o a w κ r := by
  simp only [opK, ho] at hκ
  split at hκ
  · split at hκ
    · rename_i k v d e1 hdst
      obtain ⟨own1, o1, h1, _, _⟩ := h.newRow (.map #[] 0) (some [])
      have hblk : (w.alloc (.map #[] 0)).heap[w.heap.size]? = some (.map #[] 0) := (MapKept.heap_alloc w _).1
      obtain ⟨own2, h2⟩ := put_lim h1 hn (hd d hdst) (c := ⟨.map k v, mapM, []⟩) (v := .map (some w.heap.size)) (cs := [.map (some w.heap.size)]) rfl
        ⟨w.heap.size, #[], 0, rfl, o1, hblk, by simp, fun i e x he => by simp at he⟩
      refine do_run (v := .map (some w.heap.size)) ?_ (by rw [hdst]; exact h2) hκ (fun _ => (Below.refl _ w).alloc (Nat.le_refl _) _)
      simp only [execOp, ho]
      rfl
    · cases hκ
  · cases hκ
theorem run_lookupM {P : Program} {t kt et b : Nat} {es : Array MapEntry} {clock : Nat} {key : Value} {two : Bool} {w : World} {res : Option (Nat × Value)} {z0 : Value} (hu : P.underlying t = some (.map kt et)) (hb : w.heap[b]? = some (.map es clock))
    (hchk : ∀ em, (Instr.checkKey em 10000 kt key).run P w = .ok () w) (hf : (Instr.findKey kt key es.toList).run P w = .ok res w) (hz : (zeroValue et).run P w = .ok z0 w) :
    (Instr.lookup t (.map (some b)) key two).run P w = .ok (if two then .tuple #[(res.map (·.2)).getD z0, .bool res.isSome] else (res.map (·.2)).getD z0) w := by
  simp only [Instr.lookup, Sem.run_bind, run_underlying hu, Result.andThen_ok, MapKept.run_getObj_map hb]
  simp only [Sem.run_pure, Result.andThen_ok, hchk, hf]
  cases res with
  | none => simp only [Sem.run_bind, hz, Result.andThen_ok]; cases two <;> rfl
  | some p => cases two <;> rfl
theorem rd_lookup {o : Oper} {t : TypeId} {x i : Operand} {two : Bool} {hn : Hint} {κ π : ST S → Option α} {r : α} (ok : S.Ok) (T : TysOk g.P g.E) (h : Rel g own st a w) (hd : ∀ d, o.dst = some d → d < a.tmps.size)
    (ho : o.op = .lookup t x i two) (hκ : opK π g.E hn o st κ = some r) : Rd g o a w κ r := by
  simp only [opK, ho] at hκ
  split at hκ
  · rename_i rt p ex
    split at hκ
    · rename_i k v m l e2
      split at hκ
      · rename_i m1 m2 c hb hc
        simp only [Bool.and_eq_true] at hb
        obtain ⟨⟨ht, hk⟩, hs⟩ := hb
        split at hκ
        · rename_i y hy
          obtain ⟨b, es, clock, _, _, v1, hown, hlt, hblk, hE⟩ := map_at ok h ex e2
          obtain ⟨kt, et, hu, hkt, het⟩ := (T _ _ (Env.is_lookup ht)).und
          obtain ⟨n, e, kk, rfl, huk, he⟩ := key_parts T hk hkt
          obtain ⟨cs, hVS, hR⟩ := val_ok ok g.E h hc
          obtain ⟨hty, rfl⟩ := cast_some hy
          obtain ⟨ct, cm, cx⟩ := c
          simp only at hty hVS hR
          subst hty
          have v2 : a.eval i = .agg cs.toArray := hVS
          have hkey : S.R w (fun _ => False) (.agg (.arr n (.int kk))) cs cx := key_R hk hR
          obtain ⟨iz, z0, i1, _, i3, i4, _⟩ := (T _ _ het).info
          have hz : ∀ w', (zeroValue et).run g.P w' = .ok z0 w' := fun w' => run_zeroValue' i1 i3 w'
          have hnm : noName v = true := (T _ _ het).named (by cases v <;> first | rfl | cases hs)
          obtain ⟨res, r1, r2⟩ := run_find (P := g.P) (E := g.E) ok T (v := v) hk hkt cx cs hkey es.toList l 0 hE
          have hchk : ∀ em w', (Instr.checkKey em 10000 kt (.agg cs.toArray)).run g.P w' = .ok () w' := fun em w' => run_checkKey_arr (S := S) T huk he em 9998 (Cx.R_agg.1 hkey) w'
          have hwide : (match g.P.underlying kt with | some (.array _ _) | some (.struct _) => true | _ => false) = true := by rw [huk]
          have hrun : ∀ w', Below w.heap.size w w' → (Instr.lookup t (.map (some b)) (.agg cs.toArray) two).run g.P w' = .ok (if two then .tuple #[(res.map (·.2)).getD z0, .bool res.isSome] else (res.map (·.2)).getD z0) w' := fun w' hw' =>
            run_lookupM hu (by rw [hw'.block b hlt]; exact hblk) (fun em => hchk em w') ((run_findKey_eq w' hwide _ _).trans (r1 w')) (hz w')
          have hval : ∃ vc, VS v ((res.map (·.2)).getD z0) vc ∧ S.R w (g.Z own w) v vc (Option.getD (findM (S.eqB (.agg (.arr n (.int kk)))) cx l) (S.zero v)) := by
            rcases r2 with ⟨q1, q2, q3⟩ | ⟨j, e', x', q1, q2, q3, q4, q5, q6⟩
            · exact ⟨zc v, by rw [q1]; exact i4, by rw [q2]; exact R_zc _ hnm⟩
            · obtain ⟨_, vc, p1, p2⟩ := hE.2 j e' x' q1 q2
              exact ⟨vc, by rw [q3]; exact p1, by rw [q5]; exact p2.frame (fun _ h => h.elim) (fun _ h => h.elim)⟩
          have hsome : res.isSome = Option.isSome (findM (S.eqB (.agg (.arr n (.int kk)))) cx l) := by
            rcases r2 with ⟨q1, q2, q3⟩ | ⟨j, e', x', q1, q2, q3, q4, q5, q6⟩
            · rw [q1, q2]; rfl
            · rw [q3, q5]; rfl
          have hex : ∀ w', Below w.heap.size w w' → (execOp a.eval o).run g.P w' = .ok (.value (if two then .tuple #[(res.map (·.2)).getD z0, .bool res.isSome] else (res.map (·.2)).getD z0)) w' := fun w' hw' => by
            simp only [execOp, ho, v1, v2]
            exact run_v (hrun w' hw')
          obtain ⟨vc, p1, p2⟩ := hval
          split at hκ
          · cases hdst : o.dst with
            | none => rw [hdst] at hκ; exact ⟨_, own, st, hex, by rw [hdst]; exact h, hκ⟩
            | some d =>
              rw [hdst] at hκ
              have hrel := h.put hn (hd d hdst) (x := .tup (.pair v .bool) .ro (Option.getD (findM (S.eqB (.agg (.arr n (.int kk)))) cx l) (S.zero v), Option.isSome (findM (S.eqB (.agg (.arr n (.int kk)))) cx l))) (v := .tuple #[(res.map (·.2)).getD z0, .bool res.isSome])
                ⟨#[(res.map (·.2)).getD z0, .bool res.isSome], rfl, ⟨vc, p1, p2⟩, ⟨[.bool res.isSome], rfl, Cx.R_bool.2 (by rw [hsome])⟩⟩
              exact ⟨_, own, _, hex, by rw [hdst]; exact hrel, hκ⟩
          · exact rd_put hn h hd hex ⟨vc, p1, p2⟩ hκ
        · cases hκ
      · cases hκ
    · cases hκ
  · cases hκ
theorem nav_cells_keep {w w' : World} (hw : ∀ b off n c, cellsAt w b off n = some c → cellsAt w' b off n = some c) : ∀ (t : Ty) (q : Path) (l : Spot) (cs : List Value) (r : Spot × List Value), S.nav w t l cs q = some r → S.nav w' t l cs q = some r := by
  intro t
  induction t with
  | slice e t ih =>
    intro q l cs r hn
    cases q with
    | nil => exact hn
    | cons s q => cases s with
      | idx i =>
        simp only [Cx.nav] at hn ⊢
        split at hn
        · rename_i b off _ _
          cases hc : cellsAt w b (off + i * S.size t) (S.size t) with
          | none => rw [hc] at hn; cases hn
          | some c =>
            rw [hc] at hn
            rw [hw _ _ _ _ hc]
            exact ih q _ _ _ hn
        · cases hn
      | _ => exact hn
  | pair a b iha ihb =>
    intro q l cs r hn
    cases q with
    | nil => exact hn
    | cons s q => cases s with
      | fst => exact iha q _ _ _ hn
      | snd => exact ihb q _ _ _ hn
      | _ => exact hn
  | agg t ih =>
    intro q l cs r hn
    cases q with
    | nil => exact hn
    | cons s q => cases s with
      | inn => exact ih q _ _ _ hn
      | _ => exact hn
  | arr n t ih =>
    intro q l cs r hn
    cases q with
    | nil => exact hn
    | cons s q => cases s with
      | el i =>
        simp only [Cx.nav] at hn ⊢
        split at hn
        · exact ih q _ _ _ hn
        · cases hn
      | _ => exact hn
  | _ =>
    intro q l cs r hn
    cases q with
    | nil => exact hn
    | cons s q => cases s <;> exact hn
theorem Rel.setMap (ok : S.Ok) (h : Rel g own st a w) {s b : Nat} {k v : Ty} {l l' : List (S.den k × S.den v)} {es : Array MapEntry} {clock : Nat} {o' : Obj} (hs : st.look s = .v (.map k v) mapM l) (hown : own b = some (.slot s, some []))
    (hblk : w.heap[b]? = some (.map es clock)) (hnew : S.OW { w with heap := w.heap.setIfInBounds b o' } own (fun _ => False) (.slot s) (.map k v) mapM [] [.map (some b)] l') (hval : a.tmps.getD s undef = .map (some b)) :
    Rel g own ((st.drop (.slot s)).setRoot (.slot s) ⟨.map k v, mapM, l'⟩) a { w with heap := w.heap.setIfInBounds b o' } := by
  have hsame : ∀ b', b' ≠ b → (w.heap.setIfInBounds b o')[b']? = w.heap[b']? := (MapKept.heap_set hblk).2
  have hfr := h.fresh b (by rw [hown]; simp)
  have hZb : ¬ g.Z own w b := fun hz => by have := hz.2.2; rw [hown] at this; cases this
  have hsz : ({ w with heap := w.heap.setIfInBounds b o' } : World).heap.size = w.heap.size := by simp
  have hZ : ∀ b', g.Z own w b' → g.Z own { w with heap := w.heap.setIfInBounds b o' } b' := fun b' hb => ⟨hb.1, by rw [hsz]; exact hb.2.1, hb.2.2⟩
  have hZw : ∀ b', g.Z own w b' → ({ w with heap := w.heap.setIfInBounds b o' } : World).heap[b']? = w.heap[b']? := fun b' hb => hsame b' (fun e => hZb (e ▸ hb))
  have hcell : ∀ b' off n c, cellsAt w b' off n = some c → cellsAt { w with heap := w.heap.setIfInBounds b o' } b' off n = some c := fun b' off n c hc => by
    have hne : b' ≠ b := fun e => by
      subst e
      simp only [cellsAt, hblk] at hc
      cases hc
    rw [cellsAt_same (hsame b' hne)]; exact hc
  have hOW : ∀ {r : Root} {t : Ty} {m : Mode} {p : Path} {cs : List Value} {x : S.den t}, r ≠ .slot s → S.OW w own (g.Z own w) r t m p cs x → S.OW { w with heap := w.heap.setIfInBounds b o' } own (g.Z own { w with heap := w.heap.setIfInBounds b o' }) r t m p cs x := fun hr hO =>
    OW_frame hZ hZw _ _ _ _ _ _ (fun b' q hb' => ⟨hb', hsame b' (fun e => by subst e; rw [hown] at hb'; exact hr (Prod.mk.inj (Option.some.inj hb')).1.symm)⟩) hO
  have hroot : ∀ r, r ≠ .slot s → ((st.drop (.slot s)).setRoot (.slot s) ⟨.map k v, mapM, l'⟩).root r = st.root r := fun r hr => by
    cases r with
    | slot i =>
      have hi : i ≠ s := fun e => hr (by rw [e])
      simp only [St.root, look_setSlot, if_neg hi]
      have := root_killBy st (AVal.rooted (.slot s)) (fun _ _ _ => rfl) rfl (.slot i)
      simpa [St.root, St.drop] using this
    | mem k' =>
      simp only [St.root, St.setRoot]
      split <;> rfl
    | lim => rfl
  have hRoot : ∀ r, r ≠ .slot s → ∀ t l cs, RootAt own a w r t l cs → RootAt own a { w with heap := w.heap.setIfInBounds b o' } r t l cs := fun r hr t l cs hR => by
    cases r with
    | slot i => exact hR
    | lim => exact hR
    | mem k' =>
      obtain ⟨b', e, cl, f1, f2, f3, f4⟩ := hR
      exact ⟨b', e, cl, f1, f2, by rw [hsame b' (fun e => by subst e; rw [hown] at f2; cases f2)]; exact f3, f4⟩
  have hplace : ∀ {r p l cs c}, r ≠ .slot s → Place st own a w r p l cs c → Place ((st.drop (.slot s)).setRoot (.slot s) ⟨.map k v, mapM, l'⟩) own a { w with heap := w.heap.setIfInBounds b o' } r p l cs c := fun hr hp => by
    obtain ⟨t, m, x, l0, cs0, h1, h2, h3, h4, h5, h6⟩ := hp
    exact ⟨t, m, x, l0, cs0, (hroot _ hr).trans h1, h2, hRoot _ hr _ _ _ h3, h4, nav_cells_keep hcell _ _ _ _ _ h5, h6⟩
  refine ⟨h.os, h.tape, h.output, by rw [hsz]; exact h.size, fun b' hb hio => ?_, fun b' hb => ?_, fun i => ?_, fun k' c hk => ?_, h.defs, h.pins⟩
  · rw [hsame b' (fun e => by subst e; exact hfr.1.elim (fun hf => by omega) (fun hf => hio hf))]
    exact h.block b' hb hio
  · have := h.fresh b' hb
    exact ⟨this.1, by rw [hsz]; exact this.2⟩
  · rw [look_setSlot]
    by_cases hi : i = s
    · subst hi
      rw [if_pos rfl]
      refine ⟨[.map (some b)], by rw [hval]; rfl, OW_frame (fun _ h => h.elim) (fun _ h => h.elim) _ _ _ _ _ _ (fun b' q hb' => ⟨hb', rfl⟩) hnew⟩
    · rw [if_neg hi, St.drop, look_killBy _ _ _ rfl]
      have hv := h.vals i
      cases hr : (st.look i).rooted (.slot s) with
      | true => trivial
      | false =>
        simp only
        generalize st.look i = A at *
        cases A with
        | dead => trivial
        | und => exact hv
        | v t m y =>
          obtain ⟨cs', e1, e2⟩ := hv
          exact ⟨cs', e1, hOW (by simpa using hi) e2⟩
        | tup t m y => obtain ⟨vs, e1, e2⟩ := hv; exact ⟨vs, e1, TupR_frame hZ hZw _ _ _ e2⟩
        | rp t y =>
          obtain ⟨b', off', cs', e1, e2, e3, e4⟩ := hv
          exact ⟨b', off', cs', e1, hZ b' e2, hcell _ _ _ _ e3, e4.frame hZ hZw⟩
        | ref r p =>
          obtain ⟨l1, cs', c', e1, e2⟩ := hv
          exact ⟨l1, cs', c', hplace (fun e => by subst e; simp [AVal.rooted] at hr) e1, e2⟩
        | addr r p =>
          obtain ⟨b', off', cs', c', e1, e2⟩ := hv
          exact ⟨b', off', cs', c', hplace (fun e => by subst e; simp [AVal.rooted] at hr) e1, e2⟩
        | fn g' cs' =>
          obtain ⟨vs, f1, f2⟩ := hv
          refine ⟨vs, f1, f2.mono fun c hcm v hc => ?_⟩
          cases c with
          | d t' y =>
            obtain ⟨b', off', cs', e1, e2, e3, e4⟩ := hc
            exact ⟨b', off', cs', e1, hZ b' e2, hcell _ _ _ _ e3, e4.frame hZ hZw⟩
          | m k =>
            obtain ⟨b', off', cs', c', e1, e2⟩ := hc
            exact ⟨b', off', cs', c', hplace (by simp) e1, e2⟩
  · have hm : ((st.drop (.slot s)).setRoot (.slot s) ⟨.map k v, mapM, l'⟩).mems = st.mems := by
      simp only [St.setRoot]; split <;> rfl
    rw [hm] at hk
    obtain ⟨b', e, cells, g1, g2, g3, g4⟩ := h.mems k' c hk
    exact ⟨b', e, cells, g1, by rw [hsame b' (fun e => by subst e; rw [hown] at g1; cases g1)]; exact g2, hOW (by simp) g3, g4⟩
theorem sameBits_int {n : Nat} {k : IntKind} {z : Int} : Instr.sameBits n (.int k z) (.int k z) = true := by cases n <;> simp [Instr.sameBits]
theorem key_same {n : Nat} {kk : IntKind} {cs ds : List Value} {w w' : World} {Z Z' : Nat → Prop} {x : List Int} (h1 : S.R w Z (.arr n (.int kk)) cs x) (h2 : S.R w' Z' (.arr n (.int kk)) ds x) : cs = ds := by
  obtain ⟨a1, a2, a3⟩ := Cx.R_arr.1 h1
  obtain ⟨b1, b2, b3⟩ := Cx.R_arr.1 h2
  have hs : S.size (.int kk) = 1 := rfl
  rw [hs] at a2 a3 b2 b3
  apply List.ext_getElem (by omega)
  intro i hi hj
  have hx : i < x.length := by have : List.length x = n := a1; omega
  have e1 := Cx.R_int.1 (a3 i (x.getD i 0) (getD_nth (l := x) 0 hx))
  have e2 := Cx.R_int.1 (b3 i (x.getD i 0) (getD_nth (l := x) 0 hx))
  rw [Nat.mul_one] at e1 e2
  have g1 : (cs.drop i).take 1 = [cs[i]] := by rw [List.drop_eq_getElem_cons hi]; rfl
  have g2 : (ds.drop i).take 1 = [ds[i]] := by rw [List.drop_eq_getElem_cons hj]; rfl
  rw [g1] at e1
  rw [g2] at e2
  exact (List.cons.inj e1).1.trans (List.cons.inj e2).1.symm
theorem sameBits_self {n : Nat} {kk : IntKind} {cs : List Value} {w : World} {Z : Nat → Prop} {x : List Int} (h1 : S.R w Z (.arr n (.int kk)) cs x) (d : Nat) : Instr.sameBits (d + 1) (.agg cs.toArray) (.agg cs.toArray) = true := by
  obtain ⟨a1, a2, a3⟩ := Cx.R_arr.1 h1
  have hs : S.size (.int kk) = 1 := rfl
  rw [hs] at a2 a3
  have hall : ∀ v ∈ cs, ∃ z, v = .int kk z := fun v hv => by
    obtain ⟨i, hi, rfl⟩ := List.getElem_of_mem hv
    have hx : i < x.length := by have : List.length x = n := a1; omega
    have e1 := Cx.R_int.1 (a3 i (x.getD i 0) (getD_nth (l := x) 0 hx))
    rw [Nat.mul_one, List.drop_eq_getElem_cons hi] at e1
    exact ⟨_, (List.cons.inj e1).1⟩
  have : ∀ l : List Value, (∀ v ∈ l, ∃ z, v = .int kk z) → (l.zip l).all (fun p => Instr.sameBits d p.1 p.2) = true := by
    intro l
    induction l with
    | nil => intro _; rfl
    | cons v l ih =>
      intro hl
      obtain ⟨z, rfl⟩ := hl v (List.mem_cons_self ..)
      rw [List.zip_cons_cons, List.all_cons, sameBits_int, ih (fun v hv => hl v (List.mem_cons_of_mem _ hv))]; rfl
  simp [Instr.sameBits, this cs hall]
theorem ents_push {k v : Ty} {es : List MapEntry} {l : List (S.den k × S.den v)} (hE : S.Ents w k v es l) {e : MapEntry} {y : S.den k} {z : S.den v} (hk : ∃ kc, VS k e.key kc ∧ S.R w (fun _ => False) k kc y) (hv : ∃ vc, VS v e.val vc ∧ S.R w (fun _ => False) v vc z) :
    S.Ents w k v (es ++ [e]) (l ++ [(y, z)]) := by
  refine ⟨by simp [hE.1], fun j e' x' h1 h2 => ?_⟩
  have hl := hE.1
  by_cases hj : j < es.length
  · rw [List.getElem?_append_left hj] at h1
    unfold nth at h2
    rw [List.getElem?_append_left (by omega)] at h2
    exact hE.2 j e' x' h1 h2
  · have hjl : j = es.length := by
      have := (List.getElem?_eq_some_iff.1 h1).1
      simp at this; omega
    subst hjl
    unfold nth at h2
    rw [List.getElem?_append_right (Nat.le_refl _)] at h1
    rw [hl, List.getElem?_append_right (Nat.le_refl _)] at h2
    simp at h1 h2
    subst h1
    subst h2
    exact ⟨hk, hv⟩
theorem ents_mod {k v : Ty} {es es' : List MapEntry} {l : List (S.den k × S.den v)} (hE : S.Ents w k v es l) {j : Nat} (hj : j < l.length) {e : MapEntry} {y : S.den k} {z : S.den v} (hlen : es'.length = es.length) (hes : ∀ i, es'[i]? = if j = i then some e else es[i]?)
    (hk : ∃ kc, VS k e.key kc ∧ S.R w (fun _ => False) k kc y) (hv : ∃ vc, VS v e.val vc ∧ S.R w (fun _ => False) v vc z) : S.Ents w k v es' (l.set j (y, z)) := by
  refine ⟨by rw [hlen, List.length_set]; exact hE.1, fun i e' x' h1 h2 => ?_⟩
  rw [hes] at h1
  by_cases hi : j = i
  · subst hi
    rw [if_pos rfl] at h1
    rw [nth_set_self hj] at h2
    cases h1
    cases h2
    exact ⟨hk, hv⟩
  · rw [if_neg hi] at h1
    rw [nth_set_ne (Ne.symm hi)] at h2
    exact hE.2 i e' x' h1 h2
theorem eqB_key {n : Nat} {kk : IntKind} {x y : S.den (.agg (.arr n (.int kk)))} (h : S.eqB (.agg (.arr n (.int kk))) x y = true) : x = y := by
  have h : (fun (a b : List Int) => decide (a = b)) x y = true := h
  exact of_decide_eq_true (p := (show List Int from x) = (show List Int from y)) h
theorem do_mapUpdate {o : Oper} {t : TypeId} {x i z : Operand} {hn : Hint} {κ π : ST S → Option α} {r : α} (ok : S.Ok) (T : TysOk g.P g.E) (h : Rel g own st a w)
    (ho : o.op = .mapUpdate t x i z) (hκ : opK π g.E hn o st κ = some r) : Do g false o a w κ r := by
  simp only [opK, ho] at hκ
  split at hκ
  · rename_i rt p hdst ex
    split at hκ
    · rename_i s
      split at hκ
      · rename_i k v m l hs
        split at hκ
        · rename_i m1 m2 c d hb hc hd
          simp only [Bool.and_eq_true] at hb
          obtain ⟨⟨ht, hk⟩, hsc⟩ := hb
          split at hκ
          · rename_i y y2 hy hy2
            have e2 : st.at (.slot s) [] = some ⟨.map k v, .pr m1 m2, l⟩ := by
              simp only [St.at, St.root, hs]; rfl
            obtain ⟨b, es, clock, rfl, rfl, v1, hown, hlt, hblk, hE⟩ := map_at ok h ex e2
            obtain ⟨kt, et, hu, hkt, het⟩ := (T _ _ (Env.is_lookup ht)).und
            obtain ⟨n, e, kk, rfl, huk, he⟩ := key_parts T hk hkt
            obtain ⟨cs, hVS, hR⟩ := val_ok ok g.E h hc
            obtain ⟨ds, hVSd, hRd⟩ := val_ok ok g.E h hd
            obtain ⟨hty, rfl⟩ := cast_some hy
            obtain ⟨htd, rfl⟩ := cast_some hy2
            obtain ⟨ct, cm, cx⟩ := c
            obtain ⟨dt, dm, dx⟩ := d
            simp only at hty hVS hR htd hVSd hRd
            subst hty
            subst htd
            have v2 : a.eval i = .agg cs.toArray := hVS
            have hkey : S.R w (fun _ => False) (.agg (.arr n (.int kk))) cs cx := key_R hk hR
            have hvl : S.R w (fun _ => False) dt ds dx := scalar_R' _ _ _ hsc hRd
            obtain ⟨res, r1, r2⟩ := run_find (P := g.P) (E := g.E) ok T (v := dt) hk hkt cx cs hkey es.toList l 0 hE
            have hchk : (Instr.checkKey false 10000 kt (.agg cs.toArray)).run g.P w = .ok () w := run_checkKey_arr (S := S) T huk he false 9998 (Cx.R_agg.1 hkey) w
            have hwide : (match g.P.underlying kt with | some (.array _ _) | some (.struct _) => true | _ => false) = true := by rw [huk]
            have hf := (run_findKey_eq w hwide (.agg cs.toArray) es.toList).trans (r1 w)
            have hvals := h.vals s
            rw [hs] at hvals
            have hval : a.tmps.getD s undef = .map (some b) := by
              obtain ⟨c0, q1, b0, es0, cl0, q2, q3, q4, q5⟩ := hvals
              have q1 : c0 = [a.tmps.getD s undef] := q1
              rw [q1] at q2
              rw [(List.cons.inj q2).1]
              have hav := av_ok g.E h x t 0
              rw [ex] at hav
              obtain ⟨l0, c1, cc, hp, hVS0⟩ := hav
              have := at_place hp e2
              subst this
              obtain ⟨t1, m1, x1, l1, cs1, p1, p2, p3, p4, p5, p6⟩ := hp
              rw [nav_nil] at p5
              have e5 := congrArg Prod.snd (Option.some.inj p5)
              have p1' : st.root (.slot s) = some ⟨.map (.agg (.arr n (.int kk))) dt, mapM, l⟩ := by simp only [St.root, hs]
              rw [p1'] at p1
              cases p1
              have p3 : cs1 = [a.tmps.getD s undef] := p3.2
              have hVS0 : c1 = [a.eval x] := hVS0
              have e5 : cs1 = c1 := e5
              rw [← e5, p3, v1] at hVS0
              rw [← (List.cons.inj q2).1, (List.cons.inj hVS0).1]
            have finish : ∀ (o' : Obj) (es' : Array MapEntry) (clock' : Nat), o' = .map es' clock' → S.Ents w (.agg (.arr n (.int kk))) dt es'.toList (putM (S.eqB (.agg (.arr n (.int kk)))) cx dx l) →
                (Instr.mapUpdate t (.map (some b)) (.agg cs.toArray) (a.eval z)).run g.P w = .ok () { w with heap := w.heap.setIfInBounds b o' } → Do g false o a w κ r := by
              intro o' es' clock' ho' hE' hrun
              have hrel := h.setMap ok (o' := o') (l' := putM (S.eqB (.agg (.arr n (.int kk)))) cx dx l) hs hown hblk ⟨b, es', clock', rfl, hown, by rw [← ho']; exact (MapKept.heap_set hblk).1, hE'.1, fun j e' x' q1 q2 => by
                obtain ⟨⟨kc, p1, p2⟩, vc, p3, p4⟩ := hE'.2 j e' x' q1 q2
                exact ⟨⟨kc, p1, p2.frame (fun _ h => h) (fun _ h => h.elim)⟩, vc, p3, p4.frame (fun _ h => h) (fun _ h => h.elim)⟩⟩ hval
              intro Q
              unfold Oper.wp
              have hx : (execOp a.eval o).run g.P w = .ok .skip { w with heap := w.heap.setIfInBounds b o' } := by
                simp only [execOp, ho, v1, v2, Sem.run_bind, hrun, Result.andThen_ok]
                rfl
              rw [hx]
              exact ⟨own, _, by rw [hdst]; exact hrel, hκ, by rw [hdst]; rfl, fun h => by cases h⟩
            rcases r2 with ⟨q1, q2, q3⟩ | ⟨j, e', x', q1, q2, q3, q4, q5, q6⟩
            · subst q1
              refine finish (.map (es.push { key := .agg cs.toArray, val := a.eval z, born := clock }) (clock + 1)) _ _ rfl ?_ ?_
              · rw [q3, Array.toList_push]
                exact ents_push hE ⟨cs, rfl, hkey⟩ ⟨ds, hVSd, hvl⟩
              · simp only [Instr.mapUpdate, Sem.run_bind, run_underlying hu, Result.andThen_ok, MapKept.run_getObj_map hblk, hchk, hf, MapKept.run_setObj_map _ hblk]
            · subst q3
              have hkeq : e'.key = .agg cs.toArray := by
                obtain ⟨⟨kc, p1, p2⟩, _⟩ := hE.2 j e' x' q1 q2
                have hxx : cx = x'.1 := eqB_key q4
                rw [← hxx] at p2
                have := key_same (Cx.R_agg.1 hkey) (Cx.R_agg.1 p2)
                subst this
                exact p1
              have hsb : Instr.sameBits 10000 (.agg cs.toArray) (.agg cs.toArray) = true := sameBits_self (Cx.R_agg.1 hkey) 9999
              refine finish (.map (es.modify j fun e => { e with key := .agg cs.toArray, val := a.eval z }) clock) _ _ rfl ?_ ?_
              · rw [q6]
                refine ents_mod (e := { e' with key := .agg cs.toArray, val := a.eval z }) hE (nth_lt q2) (by simp) (fun i => ?_) ⟨cs, rfl, hkey⟩ ⟨ds, hVSd, hvl⟩
                rw [Array.getElem?_toList, Array.getElem?_modify]
                by_cases hj : j = i
                · subst hj
                  have q1' : es[j]? = some e' := by simpa using q1
                  rw [if_pos rfl, if_pos rfl, q1']; rfl
                · rw [if_neg hj, if_neg hj]; simp
              · have q1' : es[j]? = some e' := by simpa using q1
                have hstay : (Instr.keyThatStays (.agg cs.toArray) (.agg cs.toArray)).run g.P w = .ok (.agg cs.toArray) w := by
                  unfold Instr.keyThatStays
                  rw [if_pos hsb]; rfl
                simp only [Instr.mapUpdate, Sem.run_bind, run_underlying hu, Result.andThen_ok, MapKept.run_getObj_map hblk, hchk, hf, Nat.zero_add, q1', Option.map_some, Option.getD_some, hkeq, hstay, MapKept.run_setObj_map _ hblk]
          · cases hκ
        · cases hκ
      · cases hκ
    · cases hκ
  · cases hκ
end
end Go.Proofs.Ytdnkjfmneppkoaa.Vm
namespace Go.Proofs.Ytdnkjfmneppkoaa.Vm
open Go Go.RowKit
set_option linter.unusedVariables false
section
variable {S : Cx} {α : Type} {g : Gl S} {own : Nat → Option Own} {st : ST S} {a : Act} {w : World}
def tile (z : List Value) (n : Nat) : Array Value := (Array.range n).map fun j => z.toArray[j % z.toArray.size]!
theorem tile_size (z : List Value) (n : Nat) : (tile z n).size = n := by simp [tile]
theorem tile_piece (z : List Value) (N i : Nat) (hi : i < N) (hz : 0 < z.length) : ((tile z (N * z.length)).toList.drop (i * z.length)).take z.length = z := by
  apply List.ext_getElem?
  intro j
  have hb : i * z.length + z.length ≤ N * z.length := by
    rw [← Nat.succ_mul]; exact Nat.mul_le_mul_right _ hi
  rw [List.getElem?_take]
  by_cases hj : j < z.length
  · rw [if_pos hj, List.getElem?_drop]
    have e : (i * z.length + j) % z.length = j := by rw [Nat.mul_comm, Nat.mul_add_mod, Nat.mod_eq_of_lt hj]
    have hlt : i * z.length + j < N * z.length := by omega
    simp [tile, hlt, e, hj]
  · rw [if_neg hj, List.getElem?_eq_none (by omega)]
theorem do_makeSlice {o : Oper} {e : Nat} {l c : Operand} {hn : Hint} {κ π : ST S → Option α} {r : α} (ok : S.Ok) (T : TysOk g.P g.E) (h : Rel g own st a w) (hd : ∀ d, o.dst = some d → d < a.tmps.size)
    (ho : o.op = .makeSlice e l c) (hκ : opK π g.E hn o st κ = some r) : Do g true o a w κ r := by
  simp only [opK, ho] at hκ
  split at hκ
  · rename_i k1 n k2 k e1 e2
    split at hκ
    · rename_i ee t e3
      split at hκ
      · rename_i hm
        obtain ⟨hb, hk2⟩ := must_some hκ
        clear hκ
        obtain ⟨hnk, h0, h24⟩ := of_decide_eq_true hb
        subst hnk
        have v1 : a.eval l = .int k1 n := int_ok ok g.E h e1
        have v2 : a.eval c = .int k2 n := int_ok ok g.E h e2
        have tf := T _ _ e3
        obtain ⟨hu, he, hpos⟩ := tf.und
        obtain ⟨hm, hnm⟩ := Bool.or_eq_false_iff.1 hm
        have tfe := T _ _ he
        rw [Cx.un_of hnm] at tfe
        obtain ⟨ie, ze, hie, hie2, hze, hVz, hbytes⟩ := tfe.info
        obtain ⟨N, rfl⟩ : ∃ N : Nat, n = N := ⟨n.toNat, by omega⟩
        have hR0 : S.R w (fun _ => True) t (zc t) (S.zero t) := R_zc t (tfe.named hm)
        have hzl : (zc t).length = S.size t := hR0.len ok
        have hzc : ze.cells = (zc t).toArray := VS_list hVz hR0.one
        have hz0 : 0 < (zc t).length := by rw [hzl]; exact hpos
        have hzv : (zeroValue ee).run g.P w = .ok ze w := by simp [zeroValue, typeInfo, hie, hze]
        obtain ⟨own2, hlab, hrel, hZ2, hsome⟩ := h.newRow (.cells (tile (zc t) (N * (zc t).length)) ee) (some [])
        have hbel : Below w.heap.size w (w.alloc (.cells (tile (zc t) (N * (zc t).length)) ee)) := (Below.refl _ w).alloc (Nat.le_refl _) _
        have hwr : IntKind.i64.wrap (N : Int) = (N : Int) := by simp [IntKind.wrap, IntKind.signed, IntKind.bits]; omega
        have hbig : ¬ ((ie.bytes : Int) * (N : Int) > 2 ^ 48) := by
          have : ie.bytes * N ≤ 4096 * 16777216 := Nat.mul_le_mul hbytes (by omega)
          have h2 : ((ie.bytes * N : Nat) : Int) ≤ 68719476736 := by omega
          rw [← Int.natCast_mul]; omega
        have hO : S.OW (w.alloc (.cells (tile (zc t) (N * (zc t).length)) ee)) own2 (g.Z own2 (w.alloc (.cells (tile (zc t) (N * (zc t).length)) ee))) .lim (.slice ee t) (.own (Mode.fitTo t (elemMode hn o.dst))) [] [.slice (some ⟨w.heap.size, 0, none⟩) N N] (List.replicate N (S.zero t)) := by
          refine .inr ⟨w.heap.size, N, tile (zc t) (N * (zc t).length), ?_, hlab, alloc_at, ?_, ?_, ?_, fun i u hu => ?_⟩
          · show [Value.slice _ N N] = [Value.slice _ (List.length (List.replicate N (S.zero t))) N]
            rw [List.length_replicate]
          · exact Nat.le_of_eq List.length_replicate
          · exact Nat.le_trans (show N ≤ 16777216 by omega) (by decide)
          · rw [tile_size, hzl]
          · have hu : (List.replicate N (S.zero t))[i]? = some u := hu
            obtain ⟨hi, e⟩ := List.getElem?_eq_some_iff.1 hu
            rw [List.length_replicate] at hi
            rw [List.getElem_replicate] at e
            subst e
            rw [← hzl, tile_piece _ _ _ hi hz0]
            exact OW_zc ok t _ _ (tfe.named hm)
        have hrun : (execOp a.eval o).run g.P w = .ok (.value (.slice (some ⟨w.heap.size, 0, none⟩) N N)) (w.alloc (.cells (tile (zc t) (N * (zc t).length)) ee)) := by
          simp only [execOp, ho]
          refine do_alloc.run_v' ?_
          rw [v1, v2]
          have hti : (typeInfo ee).run g.P w = .ok ie w := by simp [typeInfo, hie]
          have hn0 : decide ((N : Int) < 0) = false := decide_eq_false (by omega)
          have hnb : decide ((ie.bytes : Int) * (N : Int) > 2 ^ 48) = false := decide_eq_false hbig
          have hnn : decide ((N : Int) > (N : Int)) = false := decide_eq_false (by omega)
          simp only [Instr.makeSlice, Go.asInt, Go.asIntOf, pure_bind, Sem.run_bind, run_underlying hu, Result.andThen_ok, hti, hwr, hn0, hnb, hnn, Bool.or_self, Bool.false_eq_true, if_false, run_askRoom, tfe.size w, Int.toNat_natCast]
          by_cases hz : N * S.size t = 0
          · have e0 : tile (zc t) (N * (zc t).length) = (#[] : Array Value) := by
              rw [hzl, hz]; simp [tile]
            rw [if_pos hz, hz, e0]
            simp [newRow, Result.andThen_ok]
            have e1 : (Array.range 0 : Array Nat) = #[] := by simp
            rw [e1]; simp
          · rw [if_neg hz]
            simp only [Sem.run_bind, hzv, Result.andThen_ok, hzc, newRow, run_newObj_alloc, hzl]
            rfl
        have hput : (List.replicate (N : Int).toNat (S.zero t)) = List.replicate N (S.zero t) := rfl
        cases hdst : o.dst with
        | none =>
          rw [hdst] at hk2
          exact do_run hrun (by rw [hdst]; exact hrel) hk2 (fun _ => hbel)
        | some d =>
          rw [hdst] at hk2 hO
          obtain ⟨own3, hrel3⟩ := put_lim hrel hn (hd d hdst) (c := ⟨.slice ee t, .own (Mode.fitTo t (elemMode hn (some d))), List.replicate N (S.zero t)⟩) (v := .slice (some ⟨w.heap.size, 0, none⟩) N N) rfl hO
          exact do_run hrun (by rw [hdst]; exact hrel3) hk2 (fun _ => hbel)
      · cases hκ
    · cases hκ
  · cases hκ
theorem bytes_cells (l : List UInt8) (cap i : Nat) (z : Int) (h : (intsOf l)[i]? = some z) :
    ((bytesRow (ByteArray.mk (Array.mk l)) cap).toList.drop i).take 1 = [.int .u8 z] ∧ i < (bytesRow (ByteArray.mk (Array.mk l)) cap).size := by
  have hi : i < l.length := by have := (List.getElem?_eq_some_iff.1 h).1; simpa [intsOf] using this
  have hz : z = ((l[i]).toNat : Int) := by
    simp only [intsOf, List.getElem?_map, List.getElem?_eq_getElem hi, Option.map_some, Option.some.injEq] at h
    exact h.symm
  have hb := bytesRow_at (ByteArray.mk (Array.mk l)) cap i (by simpa using hi)
  have hbs := (Array.getElem?_eq_some_iff.1 hb).1
  refine ⟨?_, hbs⟩
  apply List.ext_getElem?
  intro k
  rw [List.getElem?_take]
  by_cases hk : k < 1
  · have : k = 0 := by omega
    subst this
    rw [if_pos (by omega), List.getElem?_drop, Nat.add_zero, Array.getElem?_toList, hb, hz]
    simp
  · rw [if_neg hk]
    simp; omega
theorem do_convert {o : Oper} {src dst : TypeId} {x : Operand} {hn : Hint} {κ π : ST S → Option α} {r : α} (ok : S.Ok) (T : TysOk g.P g.E) (h : Rel g own st a w) (hd : ∀ d, o.dst = some d → d < a.tmps.size)
    (ho : o.op = .convert src dst x) (hκ : opK π g.E hn o st κ = some r) : Do g true o a w κ r := by
  cases hrow : isRow (g.E.tys.lookup dst) with
  | false => exact (rd_convert ok T h hd ho hrow hκ).do
  | true =>
    simp only [opK, ho] at hκ
    split at hκ
    · rename_i e1 e2 e3; rw [e2] at hrow; cases hrow
    · rename_i e1 e2 e3; rw [e2] at hrow; cases hrow
    · rename_i e1 e2 e3; rw [e2] at hrow; cases hrow
    · rename_i ee m y e1 e2 e3
      have v1 := str_ok ok g.E h e3
      have hu1 : g.P.underlying src = some .string := (T _ _ e1).und
      obtain ⟨hu2, he, _⟩ := (T _ _ e2).und
      have hu8 : g.P.underlying ee = some (.int .u8) := (T _ _ he).und
      have hrun0 := run_bytes_of_string w src dst ee (ByteArray.mk (Array.mk y)) hu1 hu2 hu8
      have hcap := grownCap_ge w (ByteArray.mk (Array.mk y)).size 0 ee
      generalize hcp : grownCap w (ByteArray.mk (Array.mk y)).size 0 ee = cap at *
      have hsz : (ByteArray.mk (Array.mk y)).size = List.length (α := UInt8) y := rfl
      rw [hsz] at hrun0 hcap
      generalize hrw : (.cells (bytesRow (ByteArray.mk (Array.mk y)) cap) ee ((bytesRow (ByteArray.mk (Array.mk y)) cap).size, (bytesRow (ByteArray.mk (Array.mk y)) cap).size + 1) : Obj) = ob at *
      have hdrew : Below w.heap.size w w.drew := (Below.refl _ w).drew
      have hbel : Below w.heap.size w (w.drew.alloc ob) := hdrew.trans ((Below.refl _ w.drew).alloc (Nat.le_refl _) _)
      have hrun : (execOp a.eval o).run g.P w = .ok (.value (.slice (some ⟨w.heap.size, 0, none⟩) (List.length (α := UInt8) y) cap)) (w.drew.alloc ob) := by
        simp only [execOp, ho, v1]
        exact do_alloc.run_v' hrun0
      have hat : (w.drew.alloc ob).heap[w.heap.size]? = some ob := alloc_at (w := w.drew)
      have hrel := h.keep hbel
      have hRo : RoV g own (w.drew.alloc ob) (.slice ee (.int .u8)) (intsOf y) (.slice (some ⟨w.heap.size, 0, none⟩) (List.length (α := UInt8) y) cap) := by
        have hl : ∀ zs : List (S.den (.int .u8)), zs = intsOf y → List.length zs = List.length (α := UInt8) y := fun zs e => by
          rw [e]; exact List.length_map ..
        have key : ∀ zs : List (S.den (.int .u8)), zs = intsOf y → S.R (w.drew.alloc ob) (g.Z own (w.drew.alloc ob)) (.slice ee (.int .u8)) [.slice (some ⟨w.heap.size, 0, none⟩) (List.length (α := UInt8) y) cap] zs := fun zs e0 => by
          refine Cx.R_slice.2 ⟨_, cap, by rw [hl zs e0], by rw [hl zs e0]; exact hcap, fun i z hz => ⟨w.heap.size, 0, [.int .u8 z], rfl, ⟨.inr (.inl h.size), ?_, ?_⟩, ?_, Cx.R_int.2 rfl⟩⟩
          · exact (Array.getElem?_eq_some_iff.1 hat).1
          · cases e : own w.heap.size with
            | none => rfl
            | some _ => have := (h.fresh w.heap.size (by rw [e]; simp)).2; omega
          · obtain ⟨hb1, hb2⟩ := bytes_cells y cap i z (by rw [← e0]; exact hz)
            rw [← hrw] at hat ⊢
            have := cellsAt_row hat (off := i) (n := 1) (by omega)
            rw [show (0 + i * S.size (.int .u8)) = i by show 0 + i * 1 = i; omega]
            exact this.trans (by rw [hb1])
        exact ⟨_, rfl, key _ rfl⟩
      cases hdst : o.dst with
      | none =>
        rw [hdst] at hκ
        exact do_run hrun (by rw [hdst]; exact hrel) hκ (fun _ => hbel)
      | some d =>
        rw [hdst] at hκ
        exact do_run hrun (by rw [hdst]; exact hrel.put hn (hd d hdst) (x := .v (.slice ee (.int .u8)) .ro (intsOf y)) (TR_ro.2 hRo)) hκ (fun _ => hbel)
    · cases hκ
end
end Go.Proofs.Ytdnkjfmneppkoaa.Vm
namespace Go.Proofs.Ytdnkjfmneppkoaa.Vm
open Go Go.RowKit
set_option linter.unusedVariables false
section
variable {S : Cx} {α : Type}
def IoR (S : Cx) (w : World) (Z : Nat → Prop) (own : Nat → Option Own) (i : Nat) (v : Value) (t : Ty) (m : Mode) (x : S.den t) : Prop :=
  ∃ b e cells, v = .pointer (some ⟨b, 0, none⟩) ∧ own b = some (.mem i, none) ∧ w.heap[b]? = some (.cells cells e (0, 0)) ∧ S.OW w own Z (.mem i) t m [] cells.toList x ∧ ∀ b', own b' = some (.mem i, none) → b' = b
def ArgR (S : Cx) (w : World) (Z : Nat → Prop) (own : Nat → Option Own) (i : Nat) : (p : PK) → Value → S.den p.ty → Prop
  | .val t, v, x => ∃ cs, VS t v cs ∧ S.R w Z t cs x
  | .io t m, v, x => IoR S w Z own i v t m x
  | .fn f n, v, _ => ∃ cs : List Value, cs.length = n ∧ v = .func (.func f) #[] cs.toArray
  | .own t m, v, x => ∃ cs, VS t v cs ∧ S.OW w own Z (.mem i) t m [] cs x
def capsOf : Value → List Value
  | .func _ _ cs => cs.toList
  | _ => []
def flatV : List PK → List Value → List Value → List Value
  | [], pend, vs => pend ++ vs
  | _ :: ps, c :: pend, vs => c :: flatV ps pend vs
  | .fn _ _ :: ps, [], v :: vs => v :: flatV ps (capsOf v) vs
  | .val _ :: ps, [], v :: vs => v :: flatV ps [] vs
  | .io _ _ :: ps, [], v :: vs => v :: flatV ps [] vs
  | .own _ _ :: ps, [], v :: vs => v :: flatV ps [] vs
  | _ :: _, [], [] => []
theorem flatV_none : ∀ (ps : List PK) (vs : List Value), ps.any PK.isFn = false → vs.length = ps.length → flatV ps [] vs = vs
  | [], [], _, _ => rfl
  | .val t :: ps, v :: vs, h, hl => by
    simp only [flatV, flatV_none ps vs (by simpa [PK.isFn] using h) (by simpa using hl)]
  | .io t m :: ps, v :: vs, h, hl => by
    simp only [flatV, flatV_none ps vs (by simpa [PK.isFn] using h) (by simpa using hl)]
  | .own t m :: ps, v :: vs, h, hl => by
    simp only [flatV, flatV_none ps vs (by simpa [PK.isFn] using h) (by simpa using hl)]
  | .fn _ _ :: ps, v :: vs, h, hl => by simp [PK.isFn] at h
  | [], _ :: _, _, hl => by simp at hl
  | _ :: _, [], _, hl => by simp at hl
theorem flatV_len : ∀ (ps : List PK) (pend vs : List Value), vs.length ≤ (flatV ps pend vs).length
  | [], pend, vs => by simp [flatV]
  | .val _ :: ps, c :: pend, vs => by have := flatV_len ps pend vs; simp [flatV]; omega
  | .io _ _ :: ps, c :: pend, vs => by have := flatV_len ps pend vs; simp [flatV]; omega
  | .own _ _ :: ps, c :: pend, vs => by have := flatV_len ps pend vs; simp [flatV]; omega
  | .fn _ _ :: ps, c :: pend, vs => by have := flatV_len ps pend vs; simp [flatV]; omega
  | .fn _ _ :: ps, [], v :: vs => by have := flatV_len ps (capsOf v) vs; simp [flatV]; omega
  | .val _ :: ps, [], v :: vs => by have := flatV_len ps [] vs; simp [flatV]; omega
  | .io _ _ :: ps, [], v :: vs => by have := flatV_len ps [] vs; simp [flatV]; omega
  | .own _ _ :: ps, [], v :: vs => by have := flatV_len ps [] vs; simp [flatV]; omega
  | .fn _ _ :: ps, [], [] => by simp
  | .val _ :: ps, [], [] => by simp
  | .io _ _ :: ps, [], [] => by simp
  | .own _ _ :: ps, [], [] => by simp
def ArgsR (S : Cx) (w : World) (Z : Nat → Prop) (own : Nat → Option Own) : Nat → (ps : List PK) → List Value → S.den (packTy (argT ps)) → Prop
  | _, [], [], _ => True
  | i, p :: ps, v :: vs, x => ArgR S w Z own i p v x.1 ∧ ArgsR S w Z own (i + 1) ps vs x.2
  | _, _, _, _ => False
def OutsR (S : Cx) (w : World) (Z : Nat → Prop) (own : Nat → Option Own) : List (Nat × Value) → (os : List (Ty × Mode)) → S.den (packTy (outT os)) → Prop
  | [], [], _ => True
  | k :: ks, o :: os, y => IoR S w Z own k.1 k.2 o.1 o.2 y.1 ∧ OutsR S w Z own ks os y.2
  | _, _, _ => False
def ioArgs : Nat → List PK → List Value → List (Nat × Value)
  | i, .val _ :: ps, _ :: vs => ioArgs (i + 1) ps vs
  | i, .io _ _ :: ps, v :: vs => (i, v) :: ioArgs (i + 1) ps vs
  | i, .fn _ _ :: ps, _ :: vs => ioArgs (i + 1) ps vs
  | i, .own _ _ :: ps, _ :: vs => ioArgs (i + 1) ps vs
  | _, _, _ => []
def Res1 (S : Cx) (w : World) (Z : Nat → Prop) (own : Nat → Option Own) : (rt : Ty) → (rm : Mode) → Value → S.den rt → Prop
  | .box t, .own m, v, x => ∃ b e cells, v = .pointer (some ⟨b, 0, none⟩) ∧ own b = some (.lim, none) ∧ w.heap[b]? = some (.cells cells e (0, 0)) ∧ S.OW w own Z .lim t m [] cells.toList x
  | rt, rm, v, x => ∃ cs, VS rt v cs ∧ S.OW w own Z .lim rt rm [] cs x
theorem Res1.of {w : World} {Z : Nat → Prop} {own : Nat → Option Own} {rt : Ty} {rm : Mode} {v : Value} {x : S.den rt} (h : ∃ cs, VS rt v cs ∧ S.OW w own Z .lim rt rm [] cs x) : Res1 S w Z own rt rm v x := by
  unfold Res1
  split
  · obtain ⟨cs, h1, h2⟩ := h
    exact h2.elim
  · exact h
theorem Res1.ro {w : World} {Z : Nat → Prop} {own : Nat → Option Own} {rt : Ty} {v : Value} {x : S.den rt} (h : Res1 S w Z own rt .ro v x) : ∃ cs, VS rt v cs ∧ S.OW w own Z .lim rt .ro [] cs x := by
  unfold Res1 at h
  split at h
  · rename_i e; cases e
  · exact h
theorem Res1.frame {w : World} {Z Z' : Nat → Prop} {own own' : Nat → Option Own} {rt : Ty} {rm : Mode} {v : Value} {x : S.den rt} (hZ : ∀ b, Z b → Z' b) (ho : ∀ b q, own b = some (.lim, q) → own' b = some (.lim, q))
    (h : Res1 S w Z own rt rm v x) : Res1 S w Z' own' rt rm v x := by
  have fr : ∀ {t : Ty} {m : Mode} {p : Path} {cs : List Value} {x : S.den t}, S.OW w own Z .lim t m p cs x → S.OW w own' Z' .lim t m p cs x := fun hO =>
    OW_frame hZ (fun _ _ => rfl) _ _ _ _ _ _ (fun b q hb => ⟨ho b _ hb, rfl⟩) hO
  unfold Res1 at h ⊢
  split at h
  · obtain ⟨b, e, cells, h1, h2, h3, h4⟩ := h
    exact ⟨b, e, cells, h1, ho b _ h2, h3, fr h4⟩
  · obtain ⟨cs, h1, h2⟩ := h
    exact ⟨cs, h1, fr h2⟩
def ResR (w : World) (Z : Nat → Prop) (own : Nat → Option Own) (F : FSpec S.toNm) (v : Value) (x : S.den F.rt) : Prop :=
  match F.nres with
  | 0 => True
  | 1 => Res1 S w Z own F.rt F.rm v x
  | _ => ∃ vs, v = .tuple vs ∧ TupR w Z F.rt x vs.toList
def Enters (P : Program) (f : FuncId) (args : Array Value) (w : World) (R : Value → World → Prop) : Prop :=
  match (callFunc f args).run P w with
  | .ok (.value v) w' => R v w'
  | .ok (.enter f' args') w' => Calls P f' args' w' (fun e w'' => ∃ v, e = .returned v ∧ R v w'')
  | _ => False
theorem Enters.mono {P : Program} {f : FuncId} {args : Array Value} {w : World} {R R' : Value → World → Prop} (h : Enters P f args w R) (hr : ∀ v w', R v w' → R' v w') : Enters P f args w R' := by
  unfold Enters at *
  split at h
  · exact hr _ _ h
  · exact Calls.mono h fun e w'' ⟨v, he, hR⟩ => ⟨v, he, hr _ _ hR⟩
  · exact h.elim
structure Left (own own' : Nat → Option Own) (w w' : World) : Prop where
  os : w'.os = w.os
  tape : w'.tape = w.tape
  output : w'.output = w.output
  size : w.heap.size ≤ w'.heap.size
  block : ∀ b, b < w.heap.size → own b = none → w'.heap[b]? = w.heap[b]?
  own : ∀ b, own' b ≠ none → b < w'.heap.size ∧ (w.heap.size ≤ b ∨ own b ≠ none)
def zoneOf (Z : Nat → Prop) (own own' : Nat → Option Own) (w w' : World) : Nat → Prop := fun b => (Z b ∨ w.heap.size ≤ b ∨ own b ≠ none) ∧ b < w'.heap.size ∧ own' b = none
def ValsR (S : Cx) (w : World) (Z : Nat → Prop) : (ps : List PK) → List Value → S.den (packTy (argT ps)) → Prop
  | [], [], _ => True
  | p :: ps, v :: vs, x => one p v x.1 ∧ ValsR S w Z ps vs x.2
  | _, _, _ => False
  where
  one : (p : PK) → Value → S.den p.ty → Prop
  | .val t, v, x => ∃ cs, VS t v cs ∧ S.R w Z t cs x
  | .io _ _, _, _ => True
  | .own _ _, _, _ => True
  | .fn f n, v, _ => ∃ cs : List Value, cs.length = n ∧ v = .func (.func f) #[] cs.toArray
def ORow (S : Cx) (w : World) (e : Nat) (u : Ty) (v : Value) (l : List (S.den u)) : Prop :=
  (v = .slice none 0 0 ∧ l = []) ∨ ∃ b c cells, v = .slice (some ⟨b, 0, none⟩) l.length c ∧ w.heap[b]? = some (.cells cells e (0, 0)) ∧ l.length ≤ c ∧ c ≤ maxLen ∧ cells.size = c * S.size u ∧
    ∀ i y, nth l i = some y → S.R w (fun _ => False) u ((cells.toList.drop (i * S.size u)).take (S.size u)) y
def rowOf : Value → Option Nat
  | .slice (some a) _ _ => some a.block
  | _ => none
def OsOk (P : Program) (O : OSpec S.toNm) (f : FuncId) : Prop :=
  ∀ (w : World) (Z : Nat → Prop) (v0 : Value) (vs v2 : List Value) (l : List (S.den O.u)) (y : S.den (packTy (argT O.ps))) (l2 l' : List (S.den O.u)),
    (∀ b, Z b → b < w.heap.size) → ORow S w O.e O.u v0 l → (∀ b, rowOf v0 = some b → ¬ Z b) → ValsR S w Z O.ps vs y →
    (match O.two with | true => ∃ u, v2 = [u] ∧ ORow S w O.e O.u u l2 ∧ ∀ b, rowOf u = some b → rowOf v0 ≠ some b | false => v2 = [] ∧ l2 = []) → O.f l y l2 = some l' →
    Enters P f (v0 :: (vs ++ v2)).toArray w fun v w' => w'.os = w.os ∧ w'.tape = w.tape ∧ w'.output = w.output ∧ w.heap.size ≤ w'.heap.size ∧ (∀ b, b < w.heap.size → rowOf v0 ≠ some b → w'.heap[b]? = w.heap[b]?) ∧
      ORow S w' O.e O.u v l' ∧ ∀ b, rowOf v = some b → rowOf v0 = some b ∨ w.heap.size ≤ b
def FnOk0 (P : Program) (F : FSpec S.toNm) (f : FuncId) : Prop :=
  ∀ (w : World) (Z : Nat → Prop) (own : Nat → Option Own) (vs : List Value) (x : S.den (packTy (argT F.ps))) (r : S.den (resTy F.rt (outT (outs F.ps)))),
    (∀ b, Z b → b < w.heap.size ∧ own b = none) → (∀ b, own b ≠ none → b < w.heap.size) → ArgsR S w Z own ioBase F.ps (flatV F.ps [] vs) x → GlobR S w Z → F.f x = some r →
    Enters P f vs.toArray w fun v w' => ∃ own', Left own own' w w' ∧ ResR w' (zoneOf Z own own' w w') own' F v r.1 ∧ OutsR S w' (zoneOf Z own own' w w') own' (ioArgs ioBase F.ps (flatV F.ps [] vs)) (outs F.ps) r.2
def wrongC (T : Nat) : List PanicEntry := [{ v := .iface T (.agg #[]), recovered := false }]
def GivesUp (P : Program) (f : FuncId) (args : Array Value) (w : World) (T : Nat) (R : World → Prop) : Prop :=
  match (callFunc f args).run P w with
  | .ok (.enter f' args') w' => Calls P f' args' w' (fun e w'' => e = .panicked (wrongC T) ∧ R w'')
  | _ => False
def FnOkP (P : Program) (F : FSpec S.toNm) (q : Nat × (S.den (packTy (argT F.ps)) → Option (Option (S.den (resTy F.rt (outT (outs F.ps))))))) (f : FuncId) : Prop :=
  ∀ (w : World) (Z : Nat → Prop) (own : Nat → Option Own) (vs : List Value) (x : S.den (packTy (argT F.ps))) (r : Option (S.den (resTy F.rt (outT (outs F.ps))))),
    (∀ b, Z b → b < w.heap.size ∧ own b = none) → (∀ b, own b ≠ none → b < w.heap.size) → ArgsR S w Z own ioBase F.ps (flatV F.ps [] vs) x → GlobR S w Z → q.2 x = some r →
    match r with
    | some r => Enters P f vs.toArray w fun v w' => ∃ own', Left own own' w w' ∧ ResR w' (zoneOf Z own own' w w') own' F v r.1 ∧ OutsR S w' (zoneOf Z own own' w w') own' (ioArgs ioBase F.ps (flatV F.ps [] vs)) (outs F.ps) r.2
    | none => GivesUp P f vs.toArray w q.1 fun w' => Left own (fun _ => none) w w'
def FnOkL (P : Program) (F : FSpec S.toNm) (q : S.den (packTy (argT F.ps)) → Option (S.den (resTy F.rt (outT (outs F.ps))) → Prop)) (f : FuncId) : Prop :=
  ∀ (w : World) (Z : Nat → Prop) (own : Nat → Option Own) (vs : List Value) (x : S.den (packTy (argT F.ps))) (p : S.den (resTy F.rt (outT (outs F.ps))) → Prop),
    (∀ b, Z b → b < w.heap.size ∧ own b = none) → (∀ b, own b ≠ none → b < w.heap.size) → ArgsR S w Z own ioBase F.ps (flatV F.ps [] vs) x → GlobR S w Z → q x = some p →
    Enters P f vs.toArray w fun v w' => ∃ r, p r ∧ ∃ own', Left own own' w w' ∧ ResR w' (zoneOf Z own own' w w') own' F v r.1 ∧ OutsR S w' (zoneOf Z own own' w w') own' (ioArgs ioBase F.ps (flatV F.ps [] vs)) (outs F.ps) r.2
def RsOk (P : Program) (R : RSpec S.toNm) (f : FuncId) : Prop :=
  ∀ (w : World) (Z : Nat → Prop) (v0 : Value) (vs : List Value) (l : List (S.den R.u)) (y : S.den (packTy (argT R.ps))) (l' : List (S.den R.u)),
    (∀ b, Z b → b < w.heap.size) → ORow S w R.e R.u v0 l → (∀ b, rowOf v0 = some b → ¬ Z b) → ValsR S w Z R.ps vs y → R.f l y = some l' →
    Enters P f (v0 :: vs).toArray w fun _ w' => w'.os = w.os ∧ w'.tape = w.tape ∧ w'.output = w.output ∧ w.heap.size ≤ w'.heap.size ∧ (∀ b, b < w.heap.size → rowOf v0 ≠ some b → w'.heap[b]? = w.heap[b]?) ∧ ORow S w' R.e R.u v0 l'
def FnOk (P : Program) (F : FSpec S.toNm) (f : FuncId) : Prop := match F.o with
  | none => match F.r with
    | none => match F.p with
      | none => match F.l with
        | none => FnOk0 P F f
        | some q => FnOkL P F q f
      | some q => FnOkP P F q f
    | some R => RsOk P R f
  | some O => OsOk P O f
theorem FnOk.zero {P : Program} {F : FSpec S.toNm} {f : FuncId} (h : FnOk P F f) (ho : F.o = none) (hp : F.p = none) (hr : F.r = none) (hl : F.l = none := by rfl) : FnOk0 P F f := by
  unfold FnOk at h; rw [ho] at h; simp only [hp, hr, hl] at h; exact h
theorem FnOk.lab {P : Program} {F : FSpec S.toNm} {q : S.den (packTy (argT F.ps)) → Option (S.den (resTy F.rt (outT (outs F.ps))) → Prop)} {f : FuncId} (h : FnOk P F f) (ho : F.o = none) (hp : F.p = none) (hr : F.r = none) (hl : F.l = some q) : FnOkL P F q f := by
  unfold FnOk at h; rw [ho] at h; simp only [hp, hr, hl] at h; exact h
theorem FnOk.ofL {P : Program} {F : FSpec S.toNm} {q : S.den (packTy (argT F.ps)) → Option (S.den (resTy F.rt (outT (outs F.ps))) → Prop)} {f : FuncId} (h : FnOkL P F q f) (hl : F.l = some q := by rfl) (ho : F.o = none := by rfl) (hp : F.p = none := by rfl) (hr : F.r = none := by rfl) : FnOk P F f := by
  unfold FnOk; rw [ho]; simp only [hp, hr, hl]; exact h
theorem FnOk.of {P : Program} {F : FSpec S.toNm} {f : FuncId} (ho : F.o = none) (h : FnOk0 P F f) (hp : F.p = none := by rfl) (hr : F.r = none := by rfl) (hl : F.l = none := by rfl) : FnOk P F f := by
  unfold FnOk; rw [ho]; simp only [hp, hr, hl]; exact h
theorem FnOk.pan {P : Program} {F : FSpec S.toNm} {q : Nat × (S.den (packTy (argT F.ps)) → Option (Option (S.den (resTy F.rt (outT (outs F.ps))))))} {f : FuncId} (h : FnOk P F f) (ho : F.o = none) (hp : F.p = some q) (hr : F.r = none) : FnOkP P F q f := by
  unfold FnOk at h; rw [ho] at h; simp only [hp, hr] at h; exact h
theorem FnOk.row {P : Program} {F : FSpec S.toNm} {R : RSpec S.toNm} {f : FuncId} (h : FnOk P F f) (ho : F.o = none) (hr : F.r = some R) : RsOk P R f := by
  unfold FnOk at h; rw [ho] at h; simp only [hr] at h; exact h
theorem FnOk.does {P : Program} {E : Env S} {F : FSpec S.toNm} {f : FuncId} {α : Type} {π : Option α} {x : S.den (packTy (argT F.ps))} {κ : S.den (resTy F.rt (outT (outs F.ps))) → Option α} {r : α} (h : FnOk P F f) (ho : F.o = none)
    (hb : bindP E F π x κ = some r) :
    (∀ (w : World) (Z : Nat → Prop) (own : Nat → Option Own) (vs : List Value),
      (∀ b, Z b → b < w.heap.size ∧ own b = none) → (∀ b, own b ≠ none → b < w.heap.size) → ArgsR S w Z own ioBase F.ps (flatV F.ps [] vs) x → GlobR S w Z →
      Enters P f vs.toArray w fun v w' => ∃ res, κ res = some r ∧ ∃ own', Left own own' w w' ∧ ResR w' (zoneOf Z own own' w w') own' F v res.1 ∧ OutsR S w' (zoneOf Z own own' w w') own' (ioArgs ioBase F.ps (flatV F.ps [] vs)) (outs F.ps) res.2) ∨
    (π = some r ∧ F.ps.any PK.isOwn = false ∧ ∀ (w : World) (Z : Nat → Prop) (own : Nat → Option Own) (vs : List Value),
      (∀ b, Z b → b < w.heap.size ∧ own b = none) → (∀ b, own b ≠ none → b < w.heap.size) → ArgsR S w Z own ioBase F.ps (flatV F.ps [] vs) x → GlobR S w Z →
      GivesUp P f vs.toArray w E.pt fun w' => Left own (fun _ => none) w w') := by
  unfold bindP at hb
  split at hb
  · cases hb
  rename_i hr
  split at hb
  · rename_i hp
    split at hb
    rotate_left
    · rename_i q hl
      have hok := h.lab ho hp hr hl
      obtain ⟨p, hq, hκ⟩ := bindL_some hb
      exact .inl fun w Z own vs a1 a2 a3 a4 => (hok w Z own vs x p a1 a2 a3 a4 hq).mono fun v w' ⟨res, h1, h2⟩ => ⟨res, hκ res h1, h2⟩
    rename_i hl
    have hok := h.zero ho hp hr hl
    obtain ⟨res, h1, h2⟩ : ∃ res, F.f x = some res ∧ κ res = some r := by
      cases e : F.f x with
      | none => rw [e] at hb; cases hb
      | some y => rw [e] at hb; exact ⟨y, rfl, hb⟩
    exact .inl fun w Z own vs a1 a2 a3 a4 => (hok w Z own vs x res a1 a2 a3 a4 h1).mono fun v w' h => ⟨res, h2, h⟩
  · rename_i q hp
    have hok := h.pan ho hp hr
    split at hb
    · rename_i hq
      simp only [Bool.and_eq_true, Bool.not_eq_true'] at hq
      have hno := hq.2
      have hq := Nat.eq_of_beq_eq_true hq.1
      cases e : q.2 x with
      | none => rw [e] at hb; cases hb
      | some y =>
        rw [e] at hb
        cases y with
        | none => exact .inr ⟨hb, hno, fun w Z own vs a1 a2 a3 a4 => by rw [← hq]; exact hok w Z own vs x none a1 a2 a3 a4 e⟩
        | some y => exact .inl fun w Z own vs a1 a2 a3 a4 => Enters.mono (hok w Z own vs x (some y) a1 a2 a3 a4 e) fun v w' h => ⟨y, hb, h⟩
    · cases hb
theorem FnOk.own {P : Program} {F : FSpec S.toNm} {O : OSpec S.toNm} {f : FuncId} (h : FnOk P F f) (ho : F.o = some O) : OsOk P O f := by
  unfold FnOk at h; rw [ho] at h; exact h
variable {g : Gl S} {own : Nat → Option Own} {st : ST S} {a : Act} {w : World}
theorem ValsR.one_mono {w : World} {Z Z' : Nat → Prop} (hZ : ∀ b, Z b → Z' b) {p : PK} {v : Value} {x : S.den p.ty} (h : ValsR.one S w Z p v x) : ValsR.one S w Z' p v x := by
  cases p with
  | val t => obtain ⟨cs, h1, h2⟩ := h; exact ⟨cs, h1, h2.frame hZ (fun _ _ => rfl)⟩
  | io t m => trivial
  | own t m => trivial
  | fn f n => exact h
theorem ValsR.mono {w : World} {Z Z' : Nat → Prop} (hZ : ∀ b, Z b → Z' b) : ∀ (ps : List PK) (vs : List Value) (x : S.den (packTy (argT ps))), ValsR S w Z ps vs x → ValsR S w Z' ps vs x
  | [], [], _, _ => trivial
  | p :: ps, v :: vs, x, h => ⟨ValsR.one_mono hZ h.1, ValsR.mono hZ ps vs x.2 h.2⟩
  | [], _ :: _, _, h => h.elim
  | _ :: _, [], _, h => h.elim
def argZ (g : Gl S) (fz : Bool) (own : Nat → Option Own) (w : World) : Nat → Prop := match fz with | true => g.Z own w | false => g.A w
def evS (a : Act) : Src → Value
  | .op x _ => a.eval x
  | .cap s j => (capsOf (a.tmps.getD s undef)).getD j undef
theorem capAt_ok (h : Rel g own st a w) {s j f : Nat} {cs : List (Cap S.toNm)} {c : Cap S.toNm} (e1 : st.look s = .fn f cs) (e2 : cs[j]? = some c) : CapR g st own a w c (evS a (.cap s j)) := by
  have hv := h.vals s
  rw [e1] at hv
  obtain ⟨vs, h1, h2⟩ := hv
  obtain ⟨v, h3, h4⟩ := h2.get e2
  have : evS a (.cap s j) = v := by
    simp only [evS, h1, capsOf]
    simp [h3]
  rw [this]; exact h4
theorem TR_cap {c : Cap S.toNm} {v : Value} {i : Nat} (h : CapR g st own a w c v) : TR g st own a w i c.av v := by
  cases c <;> exact h
theorem avS_ok (E : Env S) (h : Rel g own st a w) (x : Src) (i : Nat) : TR g st own a w i (st.avS E x) (evS a x) := by
  cases x with
  | op x ty => exact av_ok E h x 0 i
  | cap s j =>
    simp only [St.avS]
    split
    · rename_i f cs e1
      split
      · rename_i c e2
        exact TR_cap (capAt_ok h e1 e2)
      · trivial
    · trivial
theorem capD_ok (ok : S.Ok) (h : Rel g own st a w) {c : Cap S.toNm} {v : Value} (hc : CapR g st own a w c v) {m : MV S.toNm} (hm : capD st c = some m) : S.R w (g.A w) m.t [v] m.x ∧ ∃ t, m.t = .box t := by
  cases c with
  | d t x =>
    cases hm
    obtain ⟨b, off, cs, e1, e2, e3, e4⟩ := hc
    subst e1
    exact ⟨Cx.R_box.2 ⟨b, off, cs, rfl, Z_A e2, e3, e4.frame (fun b hb => Z_A hb) (fun _ _ => rfl)⟩, t, rfl⟩
  | m k =>
    simp only [capD] at hm
    split at hm
    · rename_i t mm y hk
      split at hm
      · rename_i hl
        cases hm
        obtain ⟨b, off, cs', c', hp, e2⟩ := hc
        subst e2
        obtain ⟨t0, m0, x0, l0, cs0, h1, h2, h3, h4, h5, h6⟩ := hp
        obtain ⟨b0, e0, cl, f1, f2, f3, f4⟩ := h3
        obtain ⟨b1, e1, cells, g1, g2, g3, g4⟩ := h.mems k _ hk
        have := g4 b0 f2
        subst this
        rw [nav_nil] at h5
        have h5 := congrArg Prod.fst (Option.some.inj h5)
        rw [f1] at h5
        simp only [Option.some.injEq, Prod.mk.injEq] at h5
        obtain ⟨rfl, rfl⟩ := h5
        have hlen : cells.toList.length = S.size t := OW_len ok _ _ _ _ _ g3
        refine ⟨Cx.R_box.2 ⟨b0, 0, cells.toList, rfl, ?_, ?_, ?_⟩, t, rfl⟩
        · exact ⟨.inr (h.fresh b0 (by rw [g1]; simp)).1, (h.fresh b0 (by rw [g1]; simp)).2⟩
        · unfold cellsAt
          rw [g2]
          simp only
          have hsz : cells.toList.length = cells.size := Array.length_toList
          rw [if_pos (by omega), List.drop_zero, List.take_of_length_le (by omega)]
        · exact OW_R (fun b hb => Z_A hb) _ _ _ _ _ hl (fun b' q hb => ⟨.inr (h.fresh b' (by rw [hb]; simp)).1, (h.fresh b' (by rw [hb]; simp)).2⟩) g3
      · cases hm
    · cases hm
theorem capsD_ok (ok : S.Ok) (h : Rel g own st a w) : ∀ (cs : List (Cap S.toNm)) (vs : List Value) (m : MV S.toNm), CapsR g st own a w cs vs → capsD st cs = some m → S.R w (g.A w) m.t vs m.x
  | [], [], m, _, hm => by cases hm; exact Cx.R_unit.2 rfl
  | [], _ :: _, _, h, _ => h.elim
  | _ :: _, [], _, h, _ => h.elim
  | c :: cs, v :: vs, m, hc, hm => by
    simp only [capsD] at hm
    split at hm
    · rename_i x y e1 e2
      cases hm
      obtain ⟨k1, t, k2⟩ := capD_ok ok h hc.1 e1
      exact Cx.R_pair.2 ⟨[v], vs, rfl, by rw [k2]; rfl, k1, capsD_ok ok h cs vs y hc.2 e2⟩
    · cases hm
theorem peekP_ok (ok : S.Ok) (h : Rel g own st a w) {A : AV S} {v : Value} {i : Nat} {want : Ty} {c : MV S.toNm} (hA : TR g st own a w i A v) (hc : st.peekP A want = some c) :
    VS c.t v [v] ∧ S.R w (g.A w) c.t [v] c.x := by
  unfold St.peekP at hc
  split at hc
  · rename_i n
    split at hc
    · rename_i r p
      split at hc
      · rename_i k
        split at hc
        · split at hc
          · rename_i t m x hk
            split at hc
            · rename_i hl
              split at hc
              · rename_i y hy
                cases hc
                obtain ⟨ht, rfl⟩ := cast_some hy
                subst ht
                obtain ⟨b, off, cs', c', hp, rfl⟩ := hA
                obtain ⟨t0, m0, x0, l0, cs0, h1, h2, h3, h4, h5, h6⟩ := hp
                obtain ⟨b0, e0, cl, f1, f2, f3, f4⟩ := h3
                rw [nav_nil] at h5
                have e5 := congrArg Prod.fst (Option.some.inj h5)
                rw [f1] at e5
                cases e5
                obtain ⟨b1, e1, cells, g1, g2, g3, g4⟩ := h.mems k _ hk
                have hbb := g4 b f2
                subst hbb
                have hA : ∀ b' q, own b' = some q → g.A w b' := fun b' q hb => ⟨.inr (h.fresh b' (by rw [hb]; simp)).1, (h.fresh b' (by rw [hb]; simp)).2⟩
                have hR : S.R w (g.A w) (S.body n) cells.toList x := OW_R (fun b hb => Z_A hb) _ _ _ _ _ hl (fun b' q hb => hA b' _ hb) g3
                have hlen : cells.toList.length = S.size (S.body n) := OW_len ok _ _ _ _ _ g3
                refine ⟨rfl, Cx.R_ptr.2 (.inr ⟨b, _, cells.toList, rfl, rfl, hA b _ g1, ?_, by rw [ok.2.1]; exact hR, cells, _, g2⟩)⟩
                unfold cellsAt
                rw [g2]
                simp only
                have hsz : cells.toList.length = cells.size := Array.length_toList
                rw [ok.1, if_pos (by omega), List.drop_zero, List.take_of_length_le (by omega)]
              · cases hc
            · cases hc
          · cases hc
        · cases hc
      · cases hc
    · cases hc
  · cases hc
theorem frzIos_ok (ok : S.Ok) {E : Env S} : ∀ (ps : List PK) (xs : List Src) (own : Nat → Option Own) (st st' : ST S), Rel g own st a w → frzIos E ps xs st = some st' → ∃ own', Rel g own' st' a w ∧ Lasts own own'
  | [], xs, own, st, st', h, hp => by
    have : st = st' := by cases xs <;> (simp only [frzIos, Option.some.injEq] at hp; exact hp)
    subst this; exact ⟨own, h, .refl⟩
  | p :: ps, [], own, st, st', h, hp => by
    have : st = st' := by cases p <;> (simp only [frzIos, Option.some.injEq] at hp; exact hp)
    subst this; exact ⟨own, h, .refl⟩
  | .val _ :: ps, x :: xs, own, st, st', h, hp => frzIos_ok ok ps xs own st st' h hp
  | .fn _ _ :: ps, x :: xs, own, st, st', h, hp => frzIos_ok ok ps xs own st st' h hp
  | .own _ _ :: ps, x :: xs, own, st, st', h, hp => frzIos_ok ok ps xs own st st' h hp
  | .io t m :: ps, x :: xs, own, st, st', h, hp => by
    simp only [frzIos] at hp
    split at hp
    · split at hp
      · rename_i k ex
        split at hp
        · rename_i t' m' y hk
          split at hp
          · exact frzIos_ok ok ps xs own st st' h hp
          · split at hp
            · rename_i hl
              split at hp
              · rename_i st1 hs
                have hav := avS_ok E h x 0
                rw [ex] at hav
                obtain ⟨b, off, cs', c', hP, v1⟩ := hav
                have hc' : c' = ⟨t', m', y⟩ := by
                  obtain ⟨t0, m0, x0, l0, cs0, h1, h2, h3, h4, h5, h6⟩ := hP
                  have h1' : st.mems.lookup k = some ⟨t0, m0, x0⟩ := h1
                  rw [hk] at h1'
                  cases h1'
                  rw [getP_nil] at h6
                  exact (Option.some.inj h6).symm
                subst hc'
                obtain ⟨own1, k1, _, k3⟩ := place_frz ok h hP hl hs
                obtain ⟨own2, j1, j2⟩ := frzIos_ok ok ps xs own1 st1 st' k1 hp
                exact ⟨own2, j1, k3.trans j2⟩
              · cases hp
            · cases hp
        · cases hp
      · cases hp
    · exact frzIos_ok ok ps xs own st st' h hp
theorem valF_ok (ok : S.Ok) (E : Env S) (h : Rel g own st a w) {x : Operand} {ty : Nat} {c : MV S.toNm} (hc : st.valF E x ty = some c) :
    ∃ cs, VS c.t (a.eval x) cs ∧ S.R w (g.A w) c.t cs c.x := by
  unfold St.valF at hc
  split at hc
  · rename_i s
    split at hc
    · rename_i f cs e
      split at hc
      · rename_i m hm
        cases hc
        have hv := h.vals s
        rw [e] at hv
        obtain ⟨vs, h1, h2⟩ := hv
        exact ⟨[a.tmps.getD s undef], rfl, by rw [h1]; exact Cx.R_clo.2 ⟨vs, rfl, capsD_ok ok h cs vs m h2 hm⟩⟩
      · cases hc
    · rename_i r p e
      split at hc
      · have hv := h.vals s
        rw [e] at hv
        obtain ⟨k1, k2⟩ := peekP_ok ok h hv hc
        exact ⟨_, k1, k2⟩
      · cases hc
    · exact val_ok ok E h hc
  · exact val_ok ok E h hc
theorem packOne_ok (ok : S.Ok) {E : Env S} {fz : Bool} (h : Rel g own st a w) {p : PK} {x : Src} {y : S.den p.ty} {st' : ST S} (hp : packOne E fz st p x = some (y, st')) :
    ∃ own', Rel g own' st' a w ∧ Lasts own own' ∧ ValsR.one S w (argZ g fz own' w) p (evS a x) y := by
  cases p with
  | io t m => cases hp; exact ⟨own, h, .refl, trivial⟩
  | own t m => cases hp; exact ⟨own, h, .refl, trivial⟩
  | fn f n =>
    simp only [packOne] at hp
    split at hp
    · split at hp
      · rename_i s
        split at hp
        · rename_i f' cs e
          split at hp
          · rename_i hd
            cases hp
            obtain ⟨rfl, hn⟩ := of_decide_eq_true hd
            have hv := h.vals s
            rw [e] at hv
            obtain ⟨vs, h1, h2⟩ := hv
            exact ⟨own, h, .refl, vs, by rw [← h2.len, hn], h1⟩
          · cases hp
        · cases hp
      · cases hp
    · cases hp
  | val t =>
    simp only [packOne] at hp
    split at hp
    · rename_i x ty
      split at hp
      · split at hp
        · rename_i c st1 hc
          split at hp
          · rename_i y' hy
            cases hp
            obtain ⟨own1, cs, h1, hVS, hm, hR, hL⟩ := frz_ok ok E h hc
            obtain ⟨ht, rfl⟩ := cast_some hy
            obtain ⟨ct, cm, cx⟩ := c
            simp only at ht hVS hR
            subst ht
            exact ⟨own1, h1, hL, cs, hVS, hR⟩
          · cases hp
        · cases hp
      · split at hp
        · rename_i c hc
          split at hp
          · rename_i y' hy
            cases hp
            obtain ⟨cs, hVS, hR⟩ := valF_ok ok E h hc
            obtain ⟨ht, rfl⟩ := cast_some hy
            obtain ⟨ct, cm, cx⟩ := c
            simp only at ht hVS hR
            subst ht
            exact ⟨own, h, .refl, cs, hVS, hR⟩
          · cases hp
        · cases hp
    · rename_i s j
      split at hp
      · rename_i f cs e1
        split at hp
        · rename_i c e2
          have hcap := capAt_ok h e1 e2
          split at hp
          · rename_i t' y'
            split at hp
            · rename_i z hz
              cases hp
              obtain ⟨ht, rfl⟩ := cast_some hz
              subst ht
              obtain ⟨b, off, cs', g1, g2, g3, g4⟩ := hcap
              refine ⟨own, h, .refl, [evS a (.cap s j)], rfl, ?_⟩
              rw [g1]
              have hZ : ∀ b, g.Z own w b → argZ g fz own w b := fun b hb => by cases fz; exact Z_A hb; exact hb
              exact Cx.R_box.2 ⟨b, off, cs', rfl, hZ b g2, g3, g4.frame hZ (fun _ _ => rfl)⟩
            · cases hp
          · rename_i k
            split at hp
            · cases hp
            · split at hp
              · rename_i m hm
                split at hp
                · rename_i z hz
                  cases hp
                  obtain ⟨k1, t', k2⟩ := capD_ok ok h hcap hm
                  obtain ⟨ht, rfl⟩ := cast_some hz
                  obtain ⟨mt, mm, mx⟩ := m
                  simp only at ht k1 k2
                  subst ht
                  exact ⟨own, h, .refl, [evS a (.cap s j)], (by rw [k2]; rfl), k1⟩
                · cases hp
              · cases hp
        · cases hp
      · cases hp
theorem argZ_mono {fz : Bool} {own own' : Nat → Option Own} (h : Lasts own own') {b : Nat} (hb : argZ g fz own w b) : argZ g fz own' w b := by
  cases fz with
  | true => exact h.Z hb
  | false => exact hb
theorem packArgs_ok (ok : S.Ok) {E : Env S} {fz : Bool} : ∀ (ps : List PK) (xs : List Src) (own : Nat → Option Own) (st st' : ST S) (y : S.den (packTy (argT ps))), Rel g own st a w →
    packArgs E fz ps xs st = some (y, st') → ∃ own', Rel g own' st' a w ∧ Lasts own own' ∧ ValsR S w (argZ g fz own' w) ps (xs.map (evS a)) y
  | [], [], own, st, st', y, h, hp => by
    simp only [packArgs, Option.some.injEq] at hp
    obtain ⟨_, rfl⟩ := hp
    exact ⟨own, h, .refl, trivial⟩
  | p :: ps, x :: xs, own, st, st', y, h, hp => by
    simp only [packArgs] at hp
    split at hp
    · rename_i y1 st1 h1
      split at hp
      · rename_i y2 st2 h2
        simp only [Option.some.injEq] at hp
        obtain ⟨rfl, rfl⟩ := hp
        obtain ⟨own1, k1, k2, k3⟩ := packOne_ok ok h h1
        obtain ⟨own2, j1, j2, j3⟩ := packArgs_ok ok ps xs own1 st1 _ y2 k1 h2
        exact ⟨own2, j1, k2.trans j2, ValsR.one_mono (fun b hb => argZ_mono j2 hb) k3, j3⟩
      · cases hp
    · cases hp
  | [], _ :: _, _, _, _, _, _, hp => by simp [packArgs] at hp
  | _ :: _, [], _, _, _, _, _, hp => by simp [packArgs] at hp
theorem srcT_ev (a : Act) : ∀ (xs : List Operand) (ts : List Nat), (srcT xs ts).map (evS a) = xs.map a.eval
  | [], _ => rfl
  | x :: xs, ts => by simp only [srcT, List.map_cons, srcT_ev a xs ts.tail]; rfl
def OwnsR (S : Cx) (w : World) (Z : Nat → Prop) (own : Nat → Option Own) : Nat → (ps : List PK) → List Value → S.den (packTy (argT ps)) → Prop
  | i, .own t m :: ps, v :: vs, x => (∃ cs, VS t v cs ∧ S.OW w own Z (.mem (ownBase + i)) t m [] cs x.1) ∧ OwnsR S w Z own (i + 1) ps vs x.2
  | i, .val _ :: ps, _ :: vs, x => OwnsR S w Z own (i + 1) ps vs x.2
  | i, .io _ _ :: ps, _ :: vs, x => OwnsR S w Z own (i + 1) ps vs x.2
  | i, .fn _ _ :: ps, _ :: vs, x => OwnsR S w Z own (i + 1) ps vs x.2
  | _, _, _, _ => True
theorem OwnsR.none {w : World} {Z : Nat → Prop} {own : Nat → Option Own} : ∀ (ps : List PK) (i : Nat) (vs : List Value) (x : S.den (packTy (argT ps))), ps.any PK.isOwn = false → OwnsR S w Z own i ps vs x
  | [], _, _, _, _ => trivial
  | .own _ _ :: ps, _, _, _, h => by simp [PK.isOwn] at h
  | .val _ :: ps, i, [], x, h => trivial
  | .io _ _ :: ps, i, [], x, h => trivial
  | .fn _ _ :: ps, i, [], x, h => trivial
  | .val _ :: ps, i, v :: vs, x, h => OwnsR.none ps (i + 1) vs x.2 (by simpa [PK.isOwn] using h)
  | .io _ _ :: ps, i, v :: vs, x, h => OwnsR.none ps (i + 1) vs x.2 (by simpa [PK.isOwn] using h)
  | .fn _ _ :: ps, i, v :: vs, x, h => OwnsR.none ps (i + 1) vs x.2 (by simpa [PK.isOwn] using h)
theorem takeOwn_ok (ok : S.Ok) {E : Env S} {Z : Nat → Prop} : ∀ (ps : List PK) (xs : List Src) (i : Nat) (own : Nat → Option Own) (st st' : ST S) (y y' : S.den (packTy (argT ps))), Rel g own st a w → takeOwn E st ps xs y = some (y', st') →
    ValsR S w Z ps (xs.map (evS a)) y → ∃ own', Rel g own' st' a w ∧ (∀ b, own b = none → own' b = none) ∧ ValsR S w Z ps (xs.map (evS a)) y' ∧ OwnsR S w (g.Z own' w) own' i ps (xs.map (evS a)) y'
  | [], [], i, own, st, st', y, y', h, hp, hV => by
    simp only [takeOwn, Option.some.injEq, Prod.mk.injEq] at hp
    obtain ⟨_, rfl⟩ := hp
    exact ⟨own, h, fun _ h => h, trivial, trivial⟩
  | [], _ :: _, i, own, st, st', y, y', h, hp, hV => hV.elim
  | .own t m :: ps, [], i, own, st, st', y, y', h, hp, hV => hV.elim
  | .val _ :: ps, [], i, own, st, st', y, y', h, hp, hV => hV.elim
  | .io _ _ :: ps, [], i, own, st, st', y, y', h, hp, hV => hV.elim
  | .fn _ _ :: ps, [], i, own, st, st', y, y', h, hp, hV => hV.elim
  | .own t m :: ps, x :: xs, i, own, st, st', y, y', h, hp, hV => by
    simp only [takeOwn] at hp
    split at hp
    · cases hp
    · rename_i hno
      split at hp
      · rename_i x ty
        split at hp
        · rename_i c st1 hc
          split at hp
          · rename_i hm _
            split at hp
            · rename_i z hz
              cases hp
              obtain ⟨own1, cs, h1, hVS, hO, hL, hl⟩ := take_ok ok E h hc []
              obtain ⟨own2, h2, hO2, hn, _⟩ := lim_to (r := .mem (ownBase + i)) (p := []) h1 hO
              obtain ⟨ht, rfl⟩ := cast_some hz
              obtain ⟨ct, cm, cx⟩ := c
              simp only at ht hm hVS hO2
              subst ht
              subst hm
              exact ⟨own2, h2, fun b hb => (hn b).1 (hL.none b hb), ⟨trivial, hV.2⟩, ⟨cs, hVS, hO2⟩, OwnsR.none ps (i + 1) _ _ hno⟩
            · cases hp
          · cases hp
        · cases hp
      · cases hp
  | .val t :: ps, x :: xs, i, own, st, st', y, y', h, hp, hV => by
    simp only [takeOwn] at hp
    split at hp
    · rename_i z st1 e
      cases hp
      obtain ⟨own1, k1, k2, k3, k4⟩ := takeOwn_ok ok ps xs (i + 1) own st _ y.2 z h e hV.2
      exact ⟨own1, k1, k2, ⟨hV.1, k3⟩, k4⟩
    · cases hp
  | .io t m :: ps, x :: xs, i, own, st, st', y, y', h, hp, hV => by
    simp only [takeOwn] at hp
    split at hp
    · rename_i z st1 e
      cases hp
      obtain ⟨own1, k1, k2, k3, k4⟩ := takeOwn_ok ok ps xs (i + 1) own st _ y.2 z h e hV.2
      exact ⟨own1, k1, k2, ⟨hV.1, k3⟩, k4⟩
    · cases hp
  | .fn t m :: ps, x :: xs, i, own, st, st', y, y', h, hp, hV => by
    simp only [takeOwn] at hp
    split at hp
    · rename_i z st1 e
      cases hp
      obtain ⟨own1, k1, k2, k3, k4⟩ := takeOwn_ok ok ps xs (i + 1) own st _ y.2 z h e hV.2
      exact ⟨own1, k1, k2, ⟨hV.1, k3⟩, k4⟩
    · cases hp
theorem Rel.killDeep (h : Rel g own st a w) : Rel g own (st.killBy AVal.deep) a w := by
  have hroot : ∀ r', (st.killBy AVal.deep).root r' = st.root r' := fun r' => root_killBy st _ (fun _ _ _ => rfl) rfl r'
  refine ⟨h.os, h.tape, h.output, h.size, h.block, h.fresh, fun i => ?_, fun k c hk => h.mems k c hk, h.defs, h.pins⟩
  rw [look_killBy _ _ _ rfl]
  have hv := h.vals i
  cases hd : (st.look i).deep
  · simp only
    generalize st.look i = A at *
    cases A with
    | ref r' p' =>
      obtain ⟨l1, cs1, c1, e1, e2⟩ := hv
      exact ⟨l1, cs1, c1, Place_world e1 (by simpa [AVal.deep] using hd) (hroot r') (fun _ _ _ h => h), e2⟩
    | addr r' p' =>
      obtain ⟨b', off', cs1, c1, e1, e2⟩ := hv
      exact ⟨b', off', cs1, c1, Place_world e1 (by simpa [AVal.deep] using hd) (hroot r') (fun _ _ _ h => h), e2⟩
    | fn g' cs' =>
      obtain ⟨vs, f1, f2⟩ := hv
      refine ⟨vs, f1, f2.mono fun c hcm v hc => ?_⟩
      cases c with
      | d t' y => exact hc
      | m k =>
        obtain ⟨b', off', cs1, c1, e1, e2⟩ := hc
        exact ⟨b', off', cs1, c1, Place_world e1 rfl (hroot _) (fun _ _ _ h => h), e2⟩
    | _ => exact hv
  · trivial
theorem takeOwn1_ok (ok : S.Ok) {E : Env S} {Z : Nat → Prop} (ps : List PK) (xs : List Src) (i : Nat) (own : Nat → Option Own) (st st' : ST S) (y y' : S.den (packTy (argT ps))) (h : Rel g own st a w) (hp : takeOwn1 E st ps xs y = some (y', st'))
    (hV : ValsR S w Z ps (xs.map (evS a)) y) : ∃ own', Rel g own' st' a w ∧ (∀ b, own b = none → own' b = none) ∧ ValsR S w Z ps (xs.map (evS a)) y' ∧ OwnsR S w (g.Z own' w) own' i ps (xs.map (evS a)) y' ∧
      (ps.any PK.isOwn = true → (∀ k, ownBase ≤ k → st'.mems.lookup k = none) ∧ ∀ j, (st'.look j).deep = false) := by
  unfold takeOwn1 at hp
  split at hp
  · rename_i hno
    cases hp
    exact ⟨own, h, fun _ h => h, hV, OwnsR.none ps i _ _ hno, fun e => by rw [hno] at e; cases e⟩
  · split at hp
    · rename_i z st1 e
      split at hp
      · rename_i hall
        cases hp
        obtain ⟨own1, k1, k2, k3, k4⟩ := takeOwn_ok ok ps xs i own st st1 y y' h e hV
        refine ⟨own1, k1.killDeep, k2, k3, k4, fun _ => ⟨fun k hk => ?_, fun j => ?_⟩⟩
        · rw [mems_killBy]
          cases hl : st1.mems.lookup k with
          | none => rfl
          | some c =>
            have := List.all_eq_true.1 hall _ (lookup_in _ _ _ hl)
            have := Nat.le_of_ble_eq_true this
            omega
        · rw [look_killBy _ _ _ rfl]
          cases hd : (st1.look j).deep
          · exact hd
          · rfl
      · cases hp
    · cases hp
structure OutState (st st' : ST S) (ks : List Nat) (kd : Nat → Prop) : Prop where
  look : ∀ i, st'.look i = .dead ∨ (st'.look i = st.look i ∧ (ks ≠ [] ∨ (∃ k, kd k) → (st.look i).deep = false) ∧ ∀ k ∈ ks, (st.look i).hangs (.mem k) = false)
  root : ∀ r, (∀ k ∈ ks, r ≠ .mem k) → st'.root r = st.root r
theorem Rel.call (ok : S.Ok) (h : Rel g own st a w) {w' : World} {own' : Nat → Option Own} {ks : List Nat} {kd : Nat → Prop} {st' : ST S} (hst : OutState st st' ks kd) (hkd : ∀ k, kd k → st.mems.lookup k = none)
    (hos : w'.os = w.os) (htape : w'.tape = w.tape) (hout : w'.output = w.output) (hsize : w.heap.size ≤ w'.heap.size)
    (hblk : ∀ b, b < w.heap.size → (∀ k l, k ∈ ks ∨ kd k → own b ≠ some (.mem k, l)) → w'.heap[b]? = w.heap[b]? ∧ own' b = own b)
    (hfresh : ∀ b, own' b ≠ none → b < w'.heap.size)
    (hmem : ∀ k b, k ∉ ks → own' b = some (.mem k, none) → b < w.heap.size ∧ ∀ k l, k ∈ ks ∨ kd k → own b ≠ some (.mem k, l))
    (hmems : ∀ k c, k ∈ ks → st'.mems.lookup k = some c → MR g own' w' k c ∧ (∀ b, own b = some (.mem k, none) → own' b = some (.mem k, none)) ∧ ∃ c0, st.mems.lookup k = some c0 ∧ c0.t = c.t)
    (hhas : ∀ k, k ∈ ks → ∃ c, st'.mems.lookup k = some c) : Rel g own' st' a w' := by
  have hother : ∀ b r q, (∀ k, k ∈ ks ∨ kd k → r ≠ .mem k) → own b = some (r, q) → w'.heap[b]? = w.heap[b]? ∧ own' b = own b := fun b r q hr hb =>
    hblk b (h.fresh b (by rw [hb]; simp)).2 (fun k l hk e => by rw [hb] at e; exact hr k hk (Prod.mk.inj (Option.some.inj e)).1)
  have hnone : ∀ b, b < w.heap.size → own b = none → w'.heap[b]? = w.heap[b]? ∧ own' b = none := fun b hb hn => by
    obtain ⟨h1, h2⟩ := hblk b hb (fun k l _ e => by rw [hn] at e; cases e)
    exact ⟨h1, h2.trans hn⟩
  have hZ : ∀ b, g.Z own w b → g.Z own' w' b := fun b hb => ⟨hb.1, Nat.lt_of_lt_of_le hb.2.1 hsize, (hnone b hb.2.1 hb.2.2).2⟩
  have hZw : ∀ b, g.Z own w b → w'.heap[b]? = w.heap[b]? := fun b hb => (hnone b hb.2.1 hb.2.2).1
  have hOW : ∀ {r : Root} {t : Ty} {m : Mode} {p : Path} {cs' : List Value} {x : S.den t}, (∀ k, k ∈ ks ∨ kd k → r ≠ .mem k) → S.OW w own (g.Z own w) r t m p cs' x → S.OW w' own' (g.Z own' w') r t m p cs' x := fun hr hO =>
    OW_frame hZ hZw _ _ _ _ _ _ (fun b q hb => ⟨(hother b _ _ hr hb).2.trans hb, (hother b _ _ hr hb).1⟩) hO
  have hRoot : ∀ r, (∀ k, k ∈ ks ∨ kd k → r ≠ .mem k) → ∀ t l cs, RootAt own a w r t l cs → RootAt own' a w' r t l cs := fun r hr t l cs hR => by
    cases r with
    | slot s => exact hR
    | lim => exact hR
    | mem k =>
      obtain ⟨b, e, cl, f1, f2, f3, f4⟩ := hR
      obtain ⟨o1, o2⟩ := hother b _ _ hr f2
      exact ⟨b, e, cl, f1, o2.trans f2, by rw [o1]; exact f3, f4⟩
  -- places
  have hnd : ∀ r : Root, (∀ k ∈ ks, r ≠ .mem k) → (∀ k, r = .mem k → ∃ c, st.mems.lookup k = some c) → ∀ k, k ∈ ks ∨ kd k → r ≠ .mem k := fun r hr0 hr1 k hk e => by
    rcases hk with hk | hk
    · exact hr0 k hk e
    · obtain ⟨c, hc⟩ := hr1 k e
      rw [hkd k hk] at hc; cases hc
  have hplace : ∀ r p l cs c, (∀ k ∈ ks, r ≠ .mem k) → (ks ≠ [] ∨ (∃ k, kd k) → p.plain = true) → Place st own a w r p l cs c → Place st' own' a w' r p l cs c := fun r p l cs c hr0 hp hP => by
    have hr : ∀ k, k ∈ ks ∨ kd k → r ≠ .mem k := hnd r hr0 fun k e => by
      obtain ⟨t, m, x, l0, cs0, h1, _⟩ := hP
      subst e
      exact ⟨_, h1⟩
    by_cases hks : ks = [] ∧ ¬ ∃ k, kd k
    · obtain ⟨t, m, x, l0, cs0, h1, h2, h3, h4, h5, h6⟩ := hP
      refine ⟨t, m, x, l0, cs0, (hst.root r hr0).trans h1, h2, hRoot r hr _ _ _ h3, h4, nav_keep (fun b hb => (hblk b hb (fun k l hk => by rcases hk with hk | hk; rw [hks.1] at hk; cases hk; exact absurd ⟨k, hk⟩ hks.2)).1) _ _ _ _ _ h5, h6⟩
    · exact Place_world hP (hp (by
        by_cases h0 : ks = []
        · right; exact Classical.not_not.1 fun h1 => hks ⟨h0, h1⟩
        · exact .inl h0)) (hst.root r hr0) (hRoot r hr)
  refine ⟨hos.trans h.os, htape.trans h.tape, hout.trans h.output, Nat.le_trans h.size hsize, fun b hb hio => ?_, fun b hb => ?_, fun i => ?_, fun k c hk => ?_, h.defs, fun k b b' hp hb => ?_⟩
  rotate_right
  · by_cases hk' : k ∈ ks
    · obtain ⟨c, hc⟩ := hhas k hk'
      obtain ⟨⟨bm, em, cm, q1, q2, q3, q4⟩, hsame, c0, hc0, _⟩ := hmems k c hk' hc
      obtain ⟨b0, e0, cl, p1, _, _, p4⟩ := h.mems k c0 hc0
      rw [q4 b' hb, ← q4 b0 (hsame b0 p1)]
      exact h.pins k b b0 hp p1
    · obtain ⟨h1, h2⟩ := hmem k b' hk' hb
      exact h.pins k b b' hp (((hblk b' h1 h2).2).symm.trans hb)
  · refine ((hblk b (Nat.lt_of_lt_of_le hb h.size) (fun k l _ e => ?_)).1).trans (h.block b hb hio)
    rcases (h.fresh b (by rw [e]; simp)).1 with hf | hf
    · omega
    · exact hio hf
  · refine ⟨?_, hfresh b hb⟩
    by_cases hbw : b < w.heap.size
    · by_cases ho : own b = none
      · exact absurd (hnone b hbw ho).2 hb
      · exact (h.fresh b ho).1
    · left; have := h.size; omega
  · rcases hst.look i with e | ⟨e, hdp, hh⟩
    · rw [e]; trivial
    · rw [e]
      have hv := h.vals i
      generalize st.look i = A at *
      cases A with
      | dead => trivial
      | und => exact hv
      | v t m y =>
        obtain ⟨cs', e1, e2⟩ := hv
        exact ⟨cs', e1, hOW (by intro k _; simp) e2⟩
      | tup t m y =>
        obtain ⟨vs, e1, e2⟩ := hv
        exact ⟨vs, e1, TupR_frame hZ hZw _ _ _ e2⟩
      | rp t y =>
        obtain ⟨b, off, cs', e1, e2, e3, e4⟩ := hv
        exact ⟨b, off, cs', e1, hZ b e2, by rw [cellsAt_same (hZw b e2)]; exact e3, e4.frame hZ hZw⟩
      | ref r p =>
        obtain ⟨l1, cs1, c1, e1, e2⟩ := hv
        have hr : ∀ k ∈ ks, r ≠ .mem k := fun k hk e => by subst e; have := hh k hk; simp [AVal.hangs] at this
        exact ⟨l1, cs1, c1, hplace r p _ _ _ hr (fun hk => by simpa [AVal.deep] using hdp hk) e1, e2⟩
      | addr r p =>
        obtain ⟨b, off, cs1, c1, e1, e2⟩ := hv
        have hpl : ks ≠ [] ∨ (∃ k, kd k) → Path.plain p = true := fun hk => by simpa [AVal.deep] using hdp hk
        by_cases hr : ∀ k ∈ ks, r ≠ .mem k
        · exact ⟨b, off, cs1, c1, hplace r p _ _ _ hr hpl e1, e2⟩
        · have : ∃ k, k ∈ ks ∧ r = .mem k := by
            by_cases hex : ∃ k, k ∈ ks ∧ r = .mem k
            · exact hex
            · exact absurd (fun k hk e => hex ⟨k, hk, e⟩) hr
          obtain ⟨k, hk, rfl⟩ := this
          obtain ⟨c, hc⟩ := hhas k hk
          obtain ⟨hMR, hsame, c0, hc0, ht⟩ := hmems k c hk hc
          obtain ⟨t, m, x⟩ := c0
          obtain ⟨t', n, z⟩ := c
          simp only at ht
          subst ht
          obtain ⟨cs2, c2, e3⟩ := e1.plain (own' := own') (a' := a) (w' := w') (st' := st') (hpl (.inl (by intro e; rw [e] at hk; cases hk))) (show st.root (.mem k) = some _ from hc0) (show st'.root (.mem k) = some _ from hc) (fun l cs hR => by
            obtain ⟨b0, e0, cl, f1, f2, f3, f4⟩ := hR
            obtain ⟨b1, e1', cells, g1, g2, g3, g4⟩ := hMR
            have := g4 b0 (hsame b0 f2)
            subst this
            exact ⟨_, b0, e1', cells, f1, g1, g2, rfl⟩)
          exact ⟨b, off, cs2, c2, e3, e2⟩
      | fn g' cs' =>
        obtain ⟨vs, f1, f2⟩ := hv
        refine ⟨vs, f1, f2.mono fun c hcm v hc => ?_⟩
        cases c with
        | d t' y =>
          obtain ⟨b, off, cs', e1, e2, e3, e4⟩ := hc
          exact ⟨b, off, cs', e1, hZ b e2, by rw [cellsAt_same (hZw b e2)]; exact e3, e4.frame hZ hZw⟩
        | m k0 =>
          obtain ⟨b, off, cs1, c1, e1, e2⟩ := hc
          by_cases hr : ∀ k ∈ ks, Root.mem k0 ≠ .mem k
          · exact ⟨b, off, cs1, c1, hplace _ [] _ _ _ hr (fun _ => rfl) e1, e2⟩
          · have hk : k0 ∈ ks := by
              by_cases hex : k0 ∈ ks
              · exact hex
              · exact absurd (fun k hk e => by cases e; exact hex hk) hr
            obtain ⟨c, hc⟩ := hhas k0 hk
            obtain ⟨hMR, hsame, c0, hc0, ht⟩ := hmems k0 c hk hc
            obtain ⟨t, m, x⟩ := c0
            obtain ⟨t', n, z⟩ := c
            simp only at ht
            subst ht
            obtain ⟨cs2, c2, e3⟩ := e1.plain (own' := own') (a' := a) (w' := w') (st' := st') rfl (show st.root (.mem k0) = some _ from hc0) (show st'.root (.mem k0) = some _ from hc) (fun l cs hR => by
              obtain ⟨b0, e0, cl, f1, f2, f3, f4⟩ := hR
              obtain ⟨b1, e1', cells, g1, g2, g3, g4⟩ := hMR
              have := g4 b0 (hsame b0 f2)
              subst this
              exact ⟨_, b0, e1', cells, f1, g1, g2, rfl⟩)
            exact ⟨b, off, cs2, c2, e3, e2⟩
  · by_cases hk' : k ∈ ks
    · exact (hmems k c hk' hk).1
    · have hr0 : ∀ k' ∈ ks, Root.mem k ≠ .mem k' := fun k' hk'' e => by cases e; exact hk' hk''
      have hk0 : st.root (.mem k) = some c := by rw [← hst.root _ hr0]; exact hk
      have hr := hnd _ hr0 fun k' e => by cases e; exact ⟨_, hk0⟩
      obtain ⟨b, e, cells, g1, g2, g3, g4⟩ := h.mems k c hk0
      obtain ⟨o1, o2⟩ := hother b _ _ hr g1
      refine ⟨b, e, cells, o2.trans g1, by rw [o1]; exact g2, hOW hr g3, fun b' hb' => ?_⟩
      obtain ⟨h1, h2⟩ := hmem k b' hk' hb'
      exact g4 b' (((hblk b' h1 h2).2).symm.trans hb')
end
end Go.Proofs.Ytdnkjfmneppkoaa.Vm
namespace Go.Proofs.Ytdnkjfmneppkoaa.Vm
open Go Go.RowKit
set_option linter.unusedVariables false
section
variable {S : Cx} {α : Type}
variable {g : Gl S} {own : Nat → Option Own} {st : ST S} {a : Act} {w : World}
def ioPairs (E : Env S) (st : ST S) : Nat → List PK → List Src → List (Nat × Nat)
  | i, .val _ :: ps, _ :: xs => ioPairs E st (i + 1) ps xs
  | i, .fn _ _ :: ps, _ :: xs => ioPairs E st (i + 1) ps xs
  | i, .own _ _ :: ps, _ :: xs => ioPairs E st (i + 1) ps xs
  | i, .io _ _ :: ps, x :: xs => match st.avS E x with
    | .addr (.mem k) _ => (k, i) :: ioPairs E st (i + 1) ps xs
    | _ => ioPairs E st (i + 1) ps xs
  | _, _, _ => []
theorem ioPairs_fst {E : Env S} {st : ST S} : ∀ (ps : List PK) (xs : List Src) (i : Nat), (ioPairs E st i ps xs).map Prod.fst = ioMems E st ps xs
  | [], _, _ => by cases ‹List Src› <;> rfl
  | .val t :: ps, [], _ => rfl
  | .fn _ _ :: ps, [], _ => rfl
  | .own _ _ :: ps, [], _ => rfl
  | .own _ _ :: ps, x :: xs, i => ioPairs_fst ps xs (i + 1)
  | .io t m :: ps, [], _ => rfl
  | .fn _ _ :: ps, x :: xs, i => ioPairs_fst ps xs (i + 1)
  | .val t :: ps, x :: xs, i => ioPairs_fst ps xs (i + 1)
  | .io t m :: ps, x :: xs, i => by
    have ih := ioPairs_fst (E := E) (st := st) ps xs (i + 1)
    simp only [ioPairs, ioMems]
    split <;> rename_i h <;> simp only [h, List.map_cons, ih]
theorem ioPairs_ge {E : Env S} {st : ST S} : ∀ (ps : List PK) (xs : List Src) (i : Nat) (k j : Nat), (k, j) ∈ ioPairs E st i ps xs → i ≤ j
  | [], xs, _, _, _, h => by cases xs <;> cases h
  | .val t :: ps, [], _, _, _, h => by cases h
  | .fn _ _ :: ps, [], _, _, _, h => by cases h
  | .own _ _ :: ps, [], _, _, _, h => by cases h
  | .own _ _ :: ps, x :: xs, i, k, j, h => Nat.le_of_succ_le (ioPairs_ge ps xs (i + 1) k j h)
  | .fn _ _ :: ps, x :: xs, i, k, j, h => Nat.le_of_succ_le (ioPairs_ge ps xs (i + 1) k j h)
  | .io t m :: ps, [], _, _, _, h => by cases h
  | .val t :: ps, x :: xs, i, k, j, h => Nat.le_of_succ_le (ioPairs_ge ps xs (i + 1) k j h)
  | .io t m :: ps, x :: xs, i, k, j, h => by
    simp only [ioPairs] at h
    split at h
    · rcases List.mem_cons.1 h with e | h
      · cases e; exact Nat.le_refl _
      · exact Nat.le_of_succ_le (ioPairs_ge ps xs (i + 1) k j h)
    · exact Nat.le_of_succ_le (ioPairs_ge ps xs (i + 1) k j h)
theorem ioPairs_inj {E : Env S} {st : ST S} : ∀ (ps : List PK) (xs : List Src) (i : Nat) (k k' j : Nat), (k, j) ∈ ioPairs E st i ps xs → (k', j) ∈ ioPairs E st i ps xs → k = k'
  | [], xs, _, _, _, _, h, _ => by cases xs <;> cases h
  | .val t :: ps, [], _, _, _, _, h, _ => by cases h
  | .fn _ _ :: ps, [], _, _, _, _, h, _ => by cases h
  | .own _ _ :: ps, [], _, _, _, _, h, _ => by cases h
  | .own _ _ :: ps, x :: xs, i, k, k', j, h, h' => ioPairs_inj ps xs (i + 1) k k' j h h'
  | .fn _ _ :: ps, x :: xs, i, k, k', j, h, h' => ioPairs_inj ps xs (i + 1) k k' j h h'
  | .io t m :: ps, [], _, _, _, _, h, _ => by cases h
  | .val t :: ps, x :: xs, i, k, k', j, h, h' => ioPairs_inj ps xs (i + 1) k k' j h h'
  | .io t m :: ps, x :: xs, i, k, k', j, h, h' => by
    simp only [ioPairs] at h h'
    split at h
    · rename_i k0 q e
      simp only [e] at h'
      rcases List.mem_cons.1 h with e1 | h1
      · cases e1
        rcases List.mem_cons.1 h' with e2 | h2
        · cases e2; rfl
        · exact absurd (ioPairs_ge ps xs (i + 1) k' i h2) (by omega)
      · rcases List.mem_cons.1 h' with e2 | h2
        · cases e2; exact absurd (ioPairs_ge ps xs (i + 1) k i h1) (by omega)
        · exact ioPairs_inj ps xs (i + 1) k k' j h1 h2
    · rename_i hne
      have : ioPairs E st (i + 1) ps xs = (match st.avS E x with | .addr (.mem k) _ => (k, i) :: ioPairs E st (i + 1) ps xs | _ => ioPairs E st (i + 1) ps xs) := by
        split
        · rename_i k0 q e; exact absurd e (hne k0 q)
        · rfl
      rw [← this] at h'
      exact ioPairs_inj ps xs (i + 1) k k' j h h'
theorem distinct_lookup : ∀ (l : List (Nat × Nat)), distinct (l.map Prod.fst) = true → ∀ k i, (k, i) ∈ l → l.lookup k = some i
  | [], _, _, _, h => by cases h
  | (k0, i0) :: l, hd, k, i, h => by
    simp only [List.map_cons, distinct, Bool.and_eq_true, Bool.not_eq_true'] at hd
    rw [List.lookup_cons]
    rcases List.mem_cons.1 h with e | h2
    · cases e; simp
    · have hne : k ≠ k0 := by
        intro e
        have : (l.map Prod.fst).contains k0 = true := by simp; exact ⟨i, e ▸ h2⟩
        rw [this] at hd; exact absurd hd.1 (by simp)
      have : (k == k0) = false := by simpa using hne
      rw [this]
      exact distinct_lookup l hd.2 k i h2
theorem lookup_pair : ∀ (l : List (Nat × Nat)) (k i : Nat), l.lookup k = some i → (k, i) ∈ l
  | [], _, _, h => by cases h
  | (k0, i0) :: l, k, i, h => by
    rw [List.lookup_cons] at h
    cases hk : k == k0
    · rw [hk] at h; exact List.mem_cons_of_mem _ (lookup_pair l k i h)
    · rw [hk] at h
      have : k = k0 := by simpa using hk
      cases h; subst this; exact List.mem_cons_self ..
def ownPairs : Nat → List PK → List (Nat × Nat)
  | _, [] => []
  | i, .own _ _ :: ps => (ownBase + i, i) :: ownPairs (i + 1) ps
  | i, .val _ :: ps => ownPairs (i + 1) ps
  | i, .io _ _ :: ps => ownPairs (i + 1) ps
  | i, .fn _ _ :: ps => ownPairs (i + 1) ps
theorem ownPairs_ge : ∀ (ps : List PK) (i k j : Nat), (k, j) ∈ ownPairs i ps → i ≤ j ∧ k = ownBase + j
  | [], _, _, _, h => by cases h
  | .own _ _ :: ps, i, k, j, h => by
    rcases List.mem_cons.1 h with e | h
    · cases e; exact ⟨Nat.le_refl _, rfl⟩
    · have := ownPairs_ge ps (i + 1) k j h; exact ⟨by omega, this.2⟩
  | .val _ :: ps, i, k, j, h => by have := ownPairs_ge ps (i + 1) k j h; exact ⟨by omega, this.2⟩
  | .io _ _ :: ps, i, k, j, h => by have := ownPairs_ge ps (i + 1) k j h; exact ⟨by omega, this.2⟩
  | .fn _ _ :: ps, i, k, j, h => by have := ownPairs_ge ps (i + 1) k j h; exact ⟨by omega, this.2⟩
theorem ownPairs_none : ∀ (ps : List PK) (i : Nat), ps.any PK.isOwn = false → ownPairs i ps = []
  | [], _, _ => rfl
  | .own _ _ :: ps, i, h => by simp [PK.isOwn] at h
  | .val _ :: ps, i, h => ownPairs_none ps (i + 1) (by simpa [PK.isOwn] using h)
  | .io _ _ :: ps, i, h => ownPairs_none ps (i + 1) (by simpa [PK.isOwn] using h)
  | .fn _ _ :: ps, i, h => ownPairs_none ps (i + 1) (by simpa [PK.isOwn] using h)
theorem ownPairs_dist : ∀ (ps : List PK) (i : Nat), distinct ((ownPairs i ps).map Prod.fst) = true
  | [], _ => rfl
  | .own _ _ :: ps, i => by
    simp only [ownPairs, List.map_cons, distinct, ownPairs_dist ps (i + 1), Bool.and_true, Bool.not_eq_true']
    cases e : ((ownPairs (i + 1) ps).map Prod.fst).contains (ownBase + i) with
    | false => rfl
    | true =>
      have e : (ownBase + i) ∈ (ownPairs (i + 1) ps).map Prod.fst := by simpa using e
      obtain ⟨⟨k, j⟩, h1, h2⟩ := List.mem_map.1 e
      have := ownPairs_ge ps (i + 1) k j h1
      simp only at h2
      omega
  | .val _ :: ps, i => ownPairs_dist ps (i + 1)
  | .io _ _ :: ps, i => ownPairs_dist ps (i + 1)
  | .fn _ _ :: ps, i => ownPairs_dist ps (i + 1)
theorem pairs_apart {E : Env S} {st : ST S} : ∀ (ps : List PK) (xs : List Src) (i k k' j : Nat), (k, j) ∈ ioPairs E st i ps xs → (k', j) ∈ ownPairs i ps → False
  | [], xs, _, _, _, _, h, _ => by cases xs <;> cases h
  | .val t :: ps, [], _, _, _, _, h, _ => by cases h
  | .fn _ _ :: ps, [], _, _, _, _, h, _ => by cases h
  | .own _ _ :: ps, [], _, _, _, _, h, _ => by cases h
  | .io t m :: ps, [], _, _, _, _, h, _ => by cases h
  | .val t :: ps, x :: xs, i, k, k', j, h, h' => pairs_apart ps xs (i + 1) k k' j h h'
  | .fn _ _ :: ps, x :: xs, i, k, k', j, h, h' => pairs_apart ps xs (i + 1) k k' j h h'
  | .own _ _ :: ps, x :: xs, i, k, k', j, h, h' => by
    rcases List.mem_cons.1 h' with e | h'
    · cases e; have := ioPairs_ge ps xs (i + 1) k i h; omega
    · exact pairs_apart ps xs (i + 1) k k' j h h'
  | .io t m :: ps, x :: xs, i, k, k', j, h, h' => by
    have h' : (k', j) ∈ ownPairs (i + 1) ps := h'
    simp only [ioPairs] at h
    split at h
    · rcases List.mem_cons.1 h with e | h
      · cases e; have := (ownPairs_ge ps (i + 1) k' i h').1; omega
      · exact pairs_apart ps xs (i + 1) k k' j h h'
    · exact pairs_apart ps xs (i + 1) k k' j h h'
theorem distinct_append : ∀ (l l' : List Nat), distinct l = true → distinct l' = true → (∀ x ∈ l, x ∉ l') → distinct (l ++ l') = true
  | [], l', _, h, _ => h
  | x :: l, l', h1, h2, h3 => by
    simp only [distinct, Bool.and_eq_true, Bool.not_eq_true'] at h1
    simp only [List.cons_append, distinct, Bool.and_eq_true, Bool.not_eq_true']
    refine ⟨?_, distinct_append l l' h1.2 h2 (fun y hy => h3 y (List.mem_cons_of_mem _ hy))⟩
    cases e : (l ++ l').contains x with
    | false => rfl
    | true =>
      have e : x ∈ l ++ l' := by simpa using e
      rcases List.mem_append.1 e with e | e
      · have : l.contains x = true := by simpa using e
        rw [this] at h1; exact absurd h1.1 (by simp)
      · exact absurd e (h3 x (List.mem_cons_self ..))
def ownIn (pr : List (Nat × Nat)) (own : Nat → Option Own) : Nat → Option Own := fun b =>
  match own b with
  | some (.mem k, l) => match pr.lookup k with
    | some i => some (.mem i, l)
    | none => none
  | _ => none
open Classical in
noncomputable def ownOut (pr prA : List (Nat × Nat)) (own own' : Nat → Option Own) : Nat → Option Own := fun b =>
  match own' b with
  | none => if ownIn prA own b = none then own b else none
  | some (.lim, l) => some (.lim, l)
  | some (.slot _, _) => some (.lim, none)
  | some (.mem i, l) => if h : ∃ k, (k, i) ∈ pr then some (.mem h.choose, l) else some (.lim, none)
theorem ownIn_some {pr : List (Nat × Nat)} {own : Nat → Option Own} {b k i : Nat} {l : Option Path} (h : own b = some (.mem k, l)) (hp : pr.lookup k = some i) : ownIn pr own b = some (.mem i, l) := by
  simp only [ownIn, h, hp]
theorem ownIn_inv {pr : List (Nat × Nat)} {own : Nat → Option Own} {b : Nat} {r : Root} {l : Option Path} (h : ownIn pr own b = some (r, l)) : ∃ k i, own b = some (.mem k, l) ∧ pr.lookup k = some i ∧ r = .mem i := by
  unfold ownIn at h
  split at h
  · rename_i k l' e
    split at h
    · rename_i i hp; cases h; exact ⟨k, i, e, hp, rfl⟩
    · cases h
  · cases h
theorem ownOut_mem {pr prA : List (Nat × Nat)} {own own' : Nat → Option Own} (hinj : ∀ k k' j, (k, j) ∈ pr → (k', j) ∈ pr → k = k') {b k i : Nat} {l : Option Path} (h : own' b = some (.mem i, l)) (hp : (k, i) ∈ pr) :
    ownOut pr prA own own' b = some (.mem k, l) := by
  have he : ∃ k, (k, i) ∈ pr := ⟨k, hp⟩
  simp only [ownOut, h, dif_pos he]
  rw [hinj _ _ _ he.choose_spec hp]
theorem ownOut_lim {pr prA : List (Nat × Nat)} {own own' : Nat → Option Own} {b : Nat} {l : Option Path} (h : own' b = some (.lim, l)) : ownOut pr prA own own' b = some (.lim, l) := by simp only [ownOut, h]
theorem ownOut_none {pr prA : List (Nat × Nat)} {own own' : Nat → Option Own} {b : Nat} (h : own' b = none) : ownOut pr prA own own' b = if ownIn prA own b = none then own b else none := by simp only [ownOut, h]
theorem ownOut_inv {pr prA : List (Nat × Nat)} {own own' : Nat → Option Own} {b k : Nat} (h : ownOut pr prA own own' b = some (.mem k, none)) :
    (∃ i, own' b = some (.mem i, none) ∧ (k, i) ∈ pr) ∨ (own' b = none ∧ ownIn prA own b = none ∧ own b = some (.mem k, none)) := by
  unfold ownOut at h
  split at h
  · rename_i e
    split at h
    · rename_i e2; exact .inr ⟨e, e2, h⟩
    · cases h
  · cases h
  · cases h
  · rename_i i l e
    split at h
    · rename_i he
      cases h
      exact .inl ⟨i, e, he.choose_spec⟩
    · cases h
theorem ios_ok (ok : S.Ok) {E : Env S} (h : Rel g own st a w) {Z : Nat → Prop} (hZ : ∀ b, g.Z own w b → Z b) {own' : Nat → Option Own} :
    ∀ (ps : List PK) (xs : List Src) (i : Nat) (y1 y : S.den (packTy (argT ps))), packIos E st ps xs y1 = some y → ValsR S w Z ps (xs.map (evS a)) y1 → OwnsR S w (g.Z own w) own i ps (xs.map (evS a)) y1 → (∀ k j, (k, j) ∈ ownPairs i ps → ∀ b l, own b = some (.mem k, l) → own' b = some (.mem j, l)) →
    (∀ k j, (k, j) ∈ ioPairs E st i ps xs → (∀ b l, own b = some (.mem k, l) → own' b = some (.mem j, l)) ∧ (∀ b, own' b = some (.mem j, none) → own b = some (.mem k, none))) →
    ArgsR S w Z own' i ps (xs.map (evS a)) y
  | [], [], _, _, _, _, _, _, _, _ => trivial
  | [], _ :: _, _, _, _, hp, _, _, _, _ => by simp [packIos] at hp
  | _ :: _, [], _, _, _, hp, _, _, _, _ => by simp [packIos] at hp
  | p :: ps, x :: xs, i, y1, y, hp, hv, hw, hq, ho => by
    simp only [packIos] at hp
    split at hp
    · rename_i u v e1 e2
      cases hp
      cases p with
      | val t =>
        cases e1
        exact ⟨hv.1, ios_ok ok h hZ ps xs (i + 1) y1.2 v e2 hv.2 hw hq ho⟩
      | fn f n =>
        cases e1
        exact ⟨hv.1, ios_ok ok h hZ ps xs (i + 1) y1.2 v e2 hv.2 hw hq ho⟩
      | own t m =>
        cases e1
        obtain ⟨⟨cs, hVS, hO⟩, hw2⟩ := hw
        exact ⟨⟨cs, hVS, OW_frame hZ (fun _ _ => rfl) _ _ _ _ _ _ (fun b q hb => ⟨hq _ _ (List.mem_cons_self ..) b _ hb, rfl⟩) hO⟩, ios_ok ok h hZ ps xs (i + 1) y1.2 v e2 hv.2 hw2 (fun k j hk => hq k j (List.mem_cons_of_mem _ hk)) ho⟩
      | io t m =>
        simp only [ioOne] at e1
        split at e1
        · rename_i k ex
          split at e1
          · rename_i c hc
            split at e1
            · rename_i hm _
              have hav := avS_ok E h x 0
              rw [ex] at hav
              obtain ⟨b, off, cs', c', hP, v1⟩ := hav
              obtain ⟨t0, m0, x0, l0, cs0, h1, h2, h3, h4, h5, h6⟩ := hP
              have h1' : st.mems.lookup k = some ⟨t0, m0, x0⟩ := h1
              rw [hc] at h1'
              cases h1'
              obtain ⟨b0, e0, cl, f1, f2, f3, f4⟩ := h3
              obtain ⟨bk, ek, cells, g1, g2, g3, g4⟩ := h.mems k _ hc
              have := g4 b0 f2
              subst this
              rw [nav_nil] at h5
              have h5 := Option.some.inj h5
              rw [f1] at h5
              have h5 := congrArg Prod.fst h5
              simp only [Option.some.injEq, Prod.mk.injEq] at h5
              obtain ⟨rfl, rfl⟩ := h5
              obtain ⟨ht, rfl⟩ := cast_some e1
              simp only at ht hm
              subst ht
              subst hm
              have hpair : (k, i) ∈ ioPairs E st i (.io t0 m0 :: ps) (x :: xs) := by simp only [ioPairs, ex]; exact List.mem_cons_self ..
              obtain ⟨o1, o2⟩ := ho k i hpair
              refine ⟨⟨b0, ek, cells, v1, o1 b0 _ g1, g2, OW_frame hZ (fun _ _ => rfl) _ _ _ _ _ _ (fun b q hb => ⟨o1 b _ hb, rfl⟩) g3, fun b' hb' => g4 b' (o2 b' hb')⟩, ?_⟩
              exact ios_ok ok h hZ ps xs (i + 1) y1.2 v e2 hv.2 hw hq (fun k' j hj => ho k' j (by simp only [ioPairs, ex]; exact List.mem_cons_of_mem _ hj))
            · cases e1
          · cases e1
        · cases e1
    · cases hp
theorem scalar_R {w w' : World} {Z Z' : Nat → Prop} : ∀ (t : Ty) (cs : List Value) (x : S.den t), t.scalar = true → S.R w Z t cs x → S.R w' Z' t cs x := by
  intro t
  induction t with
  | int k => intro cs x _ h; exact Cx.R_int.2 (Cx.R_int.1 h)
  | bool => intro cs x _ h; exact Cx.R_bool.2 (Cx.R_bool.1 h)
  | str => intro cs x _ h; exact Cx.R_str.2 (Cx.R_str.1 h)
  | unit => intro cs x _ h; exact Cx.R_unit.2 (Cx.R_unit.1 h)
  | pair a b iha ihb =>
    intro cs x hs h
    simp only [Ty.scalar, Bool.and_eq_true] at hs
    obtain ⟨c1, c2, h1, h2, h3, h4⟩ := Cx.R_pair.1 h
    exact Cx.R_pair.2 ⟨c1, c2, h1, h2, iha _ _ hs.1 h3, ihb _ _ hs.2 h4⟩
  | agg t ih => intro cs x hs h; exact Cx.R_agg.2 (ih _ _ hs (Cx.R_agg.1 h))
  | _ => intro cs x hs _; cases hs
theorem scalar_TupR {w w' : World} {Z Z' : Nat → Prop} : ∀ (t : Ty) (x : S.den t) (vs : List Value), t.scalar = true → TupR w Z t x vs → TupR w' Z' t x vs := by
  intro t
  induction t with
  | pair a b iha ihb =>
    intro x vs hs h
    simp only [Ty.scalar, Bool.and_eq_true] at hs
    cases vs with
    | nil => exact h.elim
    | cons v vs =>
      obtain ⟨⟨cs, h1, h2⟩, h3⟩ := h
      exact ⟨⟨cs, h1, scalar_R _ _ _ hs.1 h2⟩, ihb _ _ hs.2 h3⟩
  | _ =>
    intro x vs hs h
    match vs, h with
    | [v], ⟨cs, h1, h2⟩ => exact ⟨cs, h1, scalar_R _ _ _ hs h2⟩
theorem outs_ok {E : Env S} {st0 : ST S} {w' : World} {Z' : Nat → Prop} {ownC : Nat → Option Own} : ∀ (ps : List PK) (xs : List Src) (i : Nat) (x y1 : S.den (packTy (argT ps))) (r : S.den (packTy (outT (outs ps)))) (st st' : ST S),
    packIos E st0 ps xs y1 = some x → putOuts (ioMems E st0 ps xs) (outs ps) r st = some st' → OutsR S w' Z' ownC (ioArgs i ps (xs.map (evS a))) (outs ps) r → distinct (ioMems E st0 ps xs) = true →
    (∀ j, st'.look j = .dead ∨ (st'.look j = st.look j ∧ (ioMems E st0 ps xs ≠ [] → (st.look j).deep = false) ∧ ∀ k ∈ ioMems E st0 ps xs, (st.look j).hangs (.mem k) = false)) ∧
    (∀ r, (∀ k ∈ ioMems E st0 ps xs, r ≠ .mem k) → st'.root r = st.root r) ∧
    (∀ k j, (k, j) ∈ ioPairs E st0 i ps xs → ∃ c v x, (st0.avS E x = .addr (.mem k) [] ∧ v = evS a x) ∧ st'.mems.lookup k = some c ∧ IoR S w' Z' ownC j v c.t c.m c.x ∧ ∃ c0, st0.mems.lookup k = some c0 ∧ c0.t = c.t)
  | [], [], i, x, y1, r, st, st', _, hp, _, _ => by
    cases hp
    exact ⟨fun j => .inr ⟨rfl, fun h => absurd rfl h, fun k hk => by cases hk⟩, fun r _ => rfl, fun k j h => by cases h⟩
  | [], _ :: _, _, _, _, _, _, _, h, _, _, _ => by simp [packIos] at h
  | _ :: _, [], _, _, _, _, _, _, h, _, _, _ => by simp [packIos] at h
  | .val t :: ps, xo :: xs, i, x, y1, r, st, st', h, hp, hO, hd => by
    simp only [packIos] at h
    split at h
    · rename_i u v e1 e2
      exact outs_ok ps xs (i + 1) v y1.2 r st st' e2 hp hO hd
    · cases h
  | .fn _ _ :: ps, xo :: xs, i, x, y1, r, st, st', h, hp, hO, hd => by
    simp only [packIos] at h
    split at h
    · rename_i u v e1 e2
      exact outs_ok ps xs (i + 1) v y1.2 r st st' e2 hp hO hd
    · cases h
  | .own _ _ :: ps, xo :: xs, i, x, y1, r, st, st', h, hp, hO, hd => by
    simp only [packIos] at h
    split at h
    · rename_i u v e1 e2
      exact outs_ok ps xs (i + 1) v y1.2 r st st' e2 hp hO hd
    · cases h
  | .io t m :: ps, xo :: xs, i, x, y1, r, st, st', h, hp, hO, hd => by
    simp only [packIos] at h
    split at h
    · rename_i u v e1 e2
      simp only [ioOne] at e1
      split at e1
      · rename_i k ex
        split at e1
        · rename_i c hc
          split at e1
          · rename_i hm _
            obtain ⟨ht, _⟩ := cast_some e1
            have hks : ioMems E st0 (.io t m :: ps) (xo :: xs) = k :: ioMems E st0 ps xs := by simp only [ioMems, ex]
            have hprs : ioPairs E st0 i (.io t m :: ps) (xo :: xs) = (k, i) :: ioPairs E st0 (i + 1) ps xs := by simp only [ioPairs, ex]
            rw [hks] at hp hd
            simp only [distinct, Bool.and_eq_true, Bool.not_eq_true'] at hd
            have hnk : k ∉ ioMems E st0 ps xs := fun hk => by
              have : (ioMems E st0 ps xs).contains k = true := by simpa using hk
              rw [this] at hd; exact absurd hd.1 (by simp)
            have hp' : putOuts (ioMems E st0 ps xs) (outs ps) r.2 ((st.killW (.mem k)).setRoot (.mem k) ⟨t, m, r.1⟩) = some st' := hp
            obtain ⟨hO1, hO2⟩ : IoR S w' Z' ownC i (evS a xo) t m r.1 ∧ OutsR S w' Z' ownC (ioArgs (i + 1) ps (xs.map (evS a))) (outs ps) r.2 := hO
            obtain ⟨j1, j2, j3⟩ := outs_ok ps xs (i + 1) v y1.2 r.2 _ st' e2 hp' hO2 hd.2
            rw [hks, hprs]
            refine ⟨fun j => ?_, fun r' hr' => ?_, fun k' j' hkj => ?_⟩
            · rcases j1 j with e | ⟨e, f1, f2⟩
              · exact .inl e
              · have : ((st.killW (.mem k)).setRoot (.mem k) ⟨t, m, r.1⟩).look j = (st.killW (.mem k)).look j := rfl
                rw [this, St.killW, look_killBy _ _ _ rfl] at e f1 f2
                cases hh : ((st.look j).hangs (.mem k) || (st.look j).deep)
                · rw [hh] at e f1 f2
                  rw [Bool.or_eq_false_iff] at hh
                  refine .inr ⟨e, fun _ => hh.2, fun k' hk' => ?_⟩
                  rcases List.mem_cons.1 hk' with rfl | hk'
                  · exact hh.1
                  · exact f2 k' hk'
                · rw [hh] at e; exact .inl e
            · rw [j2 r' (fun k' hk' => hr' k' (List.mem_cons_of_mem _ hk')), root_setRoot _ _ _ _ (by simp), if_neg (hr' k (List.mem_cons_self ..))]
              exact root_killBy st _ (fun _ _ _ => rfl) rfl r'
            · rcases List.mem_cons.1 hkj with e | hkj
              · cases e
                refine ⟨⟨t, m, r.1⟩, evS a xo, xo, ⟨ex, rfl⟩, ?_, hO1, c, hc, ht⟩
                have := j2 (.mem k) (fun k2 hk2 e => by cases e; exact hnk hk2)
                rw [root_setRoot _ _ _ _ (by simp), if_pos rfl] at this
                exact this
              · exact j3 k' j' hkj
          · cases e1
        · cases e1
      · cases e1
    · cases h
theorem args_io : ∀ {E : Env S} {st0 : ST S} {Z : Nat → Prop} {ownC : Nat → Option Own} (ps : List PK) (xs : List Src) (i : Nat) (x : S.den (packTy (argT ps))),
    ArgsR S w Z ownC i ps (xs.map (evS a)) x → ∀ k j, (k, j) ∈ ioPairs E st0 i ps xs → ∃ xo q t m y, st0.avS E xo = .addr (.mem k) q ∧ IoR S w Z ownC j (evS a xo) t m y
  | _, _, _, _, [], xs, _, _, _, _, _, h => by cases xs <;> cases h
  | _, _, _, _, .val t :: ps, [], _, _, _, _, _, h => by cases h
  | _, _, _, _, .fn _ _ :: ps, [], _, _, _, _, _, h => by cases h
  | _, _, _, _, .own _ _ :: ps, [], _, _, _, _, _, h => by cases h
  | _, _, _, _, .own _ _ :: ps, xo :: xs, i, x, hA, k, j, h => args_io ps xs (i + 1) x.2 hA.2 k j h
  | _, _, _, _, .fn _ _ :: ps, xo :: xs, i, x, hA, k, j, h => args_io ps xs (i + 1) x.2 hA.2 k j h
  | _, _, _, _, .io t m :: ps, [], _, _, _, _, _, h => by cases h
  | _, _, _, _, .val t :: ps, xo :: xs, i, x, hA, k, j, h => args_io ps xs (i + 1) x.2 hA.2 k j h
  | _, st0, _, _, .io t m :: ps, xo :: xs, i, x, hA, k, j, h => by
    simp only [ioPairs] at h
    split at h
    · rename_i k0 q e
      rcases List.mem_cons.1 h with e1 | h
      · cases e1
        exact ⟨xo, q, t, m, _, e, hA.1⟩
      · exact args_io ps xs (i + 1) x.2 hA.2 k j h
    · exact args_io ps xs (i + 1) x.2 hA.2 k j h
theorem outIO_nil {ps : List PK} {E : Env S} {st : ST S} {xs : List Src} (h : ps.any PK.isIo = false) : ∀ i, ioPairs E st i ps xs = [] ∧ outs ps = [] := by
  induction ps generalizing xs with
  | nil => intro i; exact ⟨by cases xs <;> rfl, rfl⟩
  | cons p ps ih =>
    simp only [List.any_cons, Bool.or_eq_false_iff] at h
    intro i
    cases p with
    | val t =>
      cases xs with
      | nil => exact ⟨rfl, (ih (xs := []) h.2 0).2⟩
      | cons x xs => exact ⟨(ih h.2 (i + 1)).1, (ih (xs := xs) h.2 0).2⟩
    | fn f n =>
      cases xs with
      | nil => exact ⟨rfl, (ih (xs := []) h.2 0).2⟩
      | cons x xs => exact ⟨(ih h.2 (i + 1)).1, (ih (xs := xs) h.2 0).2⟩
    | io t m => exact absurd h.1 (by simp [PK.isIo])
    | own t m => exact absurd h.1 (by simp [PK.isIo])
theorem noIo_noOwn {ps : List PK} (h : ps.any PK.isIo = false) : ps.any PK.isOwn = false := by
  rw [List.any_eq_false] at h ⊢
  intro p hp
  have := h p hp
  cases p <;> simp_all [PK.isIo, PK.isOwn]
theorem execOp_call {o : Oper} {c : Call} {f : Nat} (ho : o.op = .call c) (hc : c.callee = .value (.func f)) : execOp a.eval o = callFunc f (c.args.map a.eval) := by
  simp only [execOp, ho, resolve, hc, Act.eval, Deferred.ofValue, pure_bind, invoke]
  simp
def keepsOp (E : Env S) (o : Oper) : Bool :=
  match o.op with
  | .store .. => false
  | .mapUpdate .. => false
  | .call c => match c.callee with
    | .value (.func f) => match E.fs f with
      | some F => !F.ps.any PK.isIo && F.o.isNone && F.r.isNone
      | none => true
    | .value (.tmp _) => !E.wr
    | .builtin .append => false
    | _ => true
  | _ => true
theorem do_entersC {o : Oper} {f : Nat} {args : Array Value} {κ : ST S → Option α} {r : α} {keep : Bool} (hx : execOp a.eval o = callFunc f args)
    (h : Enters g.P f args w fun v w' => ∃ own' st', Rel g own' st' (a.put o.dst v) w' ∧ κ st' = some r ∧ (keep = true → Below w.heap.size w w')) : Do g keep o a w κ r := by
  intro Q
  unfold Oper.wp
  rw [hx]
  unfold Enters at h
  split at h
  · rename_i v w' e
    rw [e]
    obtain ⟨own', st', h1, h2, h3⟩ := h
    exact ⟨own', st', h1, h2, tmps_put_size, h3⟩
  · rename_i f' args' w' e
    rw [e]
    refine Calls.mono h fun e w'' he => ?_
    obtain ⟨v, rfl, own', st', h1, h2, h3⟩ := he
    exact ⟨own', st', h1, h2, tmps_put_size, h3⟩
  · exact h.elim
theorem dop_gives {o : Oper} {f : Nat} {args : Array Value} {κ π : ST S → Option α} {r : α} {keep : Bool} (hx : execOp a.eval o = callFunc f args) (h : GivesUp g.P f args w g.E.pt fun w' => ∃ own' st', Rel g own' st' a w' ∧ π st' = some r) (hdf : a.defers = g.defs) :
    DoP g π keep o a w κ r := by
  intro Q A hp hA
  unfold Oper.wp
  rw [hx]
  unfold GivesUp at h
  split at h
  · rename_i f' args' w' e
    rw [e]
    refine Calls.mono h fun e w'' he => ?_
    obtain ⟨rfl, own', st', h1, h2⟩ := he
    exact hp own' st' a a w'' hA hA hdf h1 h2
  · exact h.elim
theorem GivesUp.mono {P : Program} {f : FuncId} {args : Array Value} {T : Nat} {R R' : World → Prop} (h : GivesUp P f args w T R) (hr : ∀ w', R w' → R' w') : GivesUp P f args w T R' := by
  unfold GivesUp at *
  split at h
  · exact Calls.mono h fun e w'' ⟨he, hR⟩ => ⟨he, hr _ hR⟩
  · exact h.elim
theorem Z_argZ {fz : Bool} {b : Nat} (h : g.Z own w b) : argZ g fz own w b := by
  cases fz
  · exact Z_A h
  · exact h
theorem put_res (h : Rel g own st a w) (hn : Hint) {d : Nat} (hpin : g.pin d = none) (hd : d < a.tmps.size) {rt : Ty} {rm : Mode} {v : Value} {x : S.den rt} (hR : Res1 S w (g.Z own w) own rt rm v x) :
    ∃ own', Rel g own' (putRes1 hn d rt rm x st) (a.put (some d) v) w := by
  cases rt with
  | box t => cases rm with
    | own m =>
      obtain ⟨b, e, cells, rfl, h2, h3, h4⟩ := hR
      exact h.asMem hn hpin hd (c := ⟨t, m, x⟩) h2 h3 h4
    | _ =>
      obtain ⟨cs, hVS, hO⟩ := hR
      exact put_lim h hn hd (c := ⟨_, _, x⟩) hVS hO
  | _ =>
    obtain ⟨cs, hVS, hO⟩ := hR
    exact put_lim h hn hd (c := ⟨_, rm, x⟩) hVS hO
theorem res_apart {w' : World} {Z Z' : Nat → Prop} {own own' : Nat → Option Own} {rt : Ty} {rm : Mode} {v : Value} {x : S.den rt} (h1 : rt.scalar = true) (h2 : rm.isRo = true) (h : Res1 S w' Z own rt rm v x) : Res1 S w' Z' own' rt rm v x := by
  have hro : rm = .ro := by cases rm <;> first | rfl | cases h2
  subst hro
  obtain ⟨cs, hVS, hO⟩ := h.ro
  exact .of ⟨cs, hVS, OW_ro.2 (scalar_R _ _ _ h1 (OW_ro.1 hO))⟩
def FnTmp (a : Act) : List PK → List Src → Prop
  | .fn f n :: ps, x :: xs => (∃ s ty, ∃ cs : List Value, x = .op (.tmp s) ty ∧ a.tmps.getD s undef = .func (.func f) #[] cs.toArray ∧ cs.length = n) ∧ FnTmp a ps xs
  | .val _ :: ps, _ :: xs => FnTmp a ps xs
  | .io _ _ :: ps, _ :: xs => FnTmp a ps xs
  | .own _ _ :: ps, _ :: xs => FnTmp a ps xs
  | _, _ => True
theorem packArgs_fn (ok : S.Ok) {E : Env S} {fz : Bool} : ∀ (ps : List PK) (xs : List Src) (own : Nat → Option Own) (st st' : ST S) (y : S.den (packTy (argT ps))), Rel g own st a w →
    packArgs E fz ps xs st = some (y, st') → FnTmp a ps xs ∧ ps.length = xs.length
  | [], [], _, _, _, _, _, _ => ⟨trivial, rfl⟩
  | p :: ps, x :: xs, own, st, st', y, h, hp => by
    simp only [packArgs] at hp
    split at hp
    · rename_i y1 st1 h1
      split at hp
      · rename_i y2 st2 h2
        obtain ⟨own1, k1, k2, k3⟩ := packOne_ok ok h h1
        obtain ⟨j1, j2⟩ := packArgs_fn ok ps xs own1 st1 _ y2 k1 h2
        refine ⟨?_, by simp [j2]⟩
        cases p with
        | val t => exact j1
        | io t m => exact j1
        | own t m => exact j1
        | fn f n =>
          refine ⟨?_, j1⟩
          simp only [packOne] at h1
          split at h1
          · split at h1
            · rename_i s
              split at h1
              · rename_i f' cs e
                split at h1
                · rename_i hd
                  obtain ⟨rfl, hn⟩ := of_decide_eq_true hd
                  have hv := h.vals s
                  rw [e] at hv
                  obtain ⟨vs, g1, g2⟩ := hv
                  exact ⟨s, _, vs, rfl, g1, by rw [← g2.len, hn]⟩
                · cases h1
              · cases h1
            · cases h1
          · cases h1
      · cases hp
    · cases hp
  | [], _ :: _, _, _, _, _, _, hp => by simp [packArgs] at hp
  | _ :: _, [], _, _, _, _, _, hp => by simp [packArgs] at hp
theorem capsS_ev {s f : Nat} {cs : List Value} (h : a.tmps.getD s undef = .func (.func f) #[] cs.toArray) : (capsS (.tmp s) cs.length).map (evS a) = cs := by
  simp only [capsS, List.map_map]
  apply List.ext_getElem
  · simp
  · intro i h1 h2
    simp only [List.getElem_map, List.getElem_range, Function.comp, evS, h, capsOf]
    simp [h2]
theorem flat_ok : ∀ (ps : List PK) (pend : List Src) (xs : List Operand) (ts : List Nat) (tl : List Src), FnTmp a ps (flatS ps pend xs ts tl) → ps.length = (flatS ps pend xs ts tl).length →
    flatV ps (pend.map (evS a)) (xs.map a.eval ++ tl.map (evS a)) = (flatS ps pend xs ts tl).map (evS a)
  | [], pend, xs, ts, tl, _, _ => by
    simp [flatS, flatV, evS, Function.comp_def]
  | .val _ :: ps, c :: pend, xs, ts, tl, h, hl => by
    simp only [flatS, List.map_cons, flatV, flat_ok ps pend xs ts tl h (by simpa [flatS] using hl)]
  | .io _ _ :: ps, c :: pend, xs, ts, tl, h, hl => by
    simp only [flatS, List.map_cons, flatV, flat_ok ps pend xs ts tl h (by simpa [flatS] using hl)]
  | .own _ _ :: ps, c :: pend, xs, ts, tl, h, hl => by
    simp only [flatS, List.map_cons, flatV, flat_ok ps pend xs ts tl h (by simpa [flatS] using hl)]
  | .own _ _ :: ps, [], x :: xs, ts, tl, h, hl => by
    have ih := flat_ok ps [] xs ts.tail tl h (by simpa [flatS] using hl)
    simp only [List.map_nil] at ih
    simp only [flatS, List.map_cons, List.map_nil, List.cons_append, flatV, ih, evS]
  | .own _ _ :: ps, [], [], ts, [], h, hl => by simp [flatS] at hl
  | .own _ _ :: ps, [], [], ts, t :: tl, h, hl => by
    have ih := flat_ok ps [] [] ts tl h (by simpa [flatS] using hl)
    simp only [List.map_nil, List.nil_append] at ih
    simp only [flatS, List.map_cons, List.map_nil, List.nil_append, flatV, ih]
  | .fn _ _ :: ps, c :: pend, xs, ts, tl, h, hl => by
    simp only [flatS, List.map_cons, flatV, flat_ok ps pend xs ts tl h.2 (by simpa [flatS] using hl)]
  | .fn f n :: ps, [], x :: xs, ts, tl, h, hl => by
    obtain ⟨⟨s, ty, cs, e1, e2, e3⟩, h2⟩ := h
    cases e1
    subst e3
    have ih := flat_ok ps (capsS (.tmp s) cs.length) xs ts.tail tl h2 (by simpa [flatS] using hl)
    rw [capsS_ev e2] at ih
    have e4 : a.eval (.tmp s) = .func (.func f) #[] cs.toArray := e2
    simp only [flatS, List.map_cons, List.map_nil, List.cons_append, flatV, e4, capsOf, ih, evS]
  | .val _ :: ps, [], x :: xs, ts, tl, h, hl => by
    have ih := flat_ok ps [] xs ts.tail tl h (by simpa [flatS] using hl)
    simp only [List.map_nil] at ih
    simp only [flatS, List.map_cons, List.map_nil, List.cons_append, flatV, ih, evS]
  | .io _ _ :: ps, [], x :: xs, ts, tl, h, hl => by
    have ih := flat_ok ps [] xs ts.tail tl h (by simpa [flatS] using hl)
    simp only [List.map_nil] at ih
    simp only [flatS, List.map_cons, List.map_nil, List.cons_append, flatV, ih, evS]
  | .fn _ _ :: ps, [], [], ts, tl, h, hl => by simp [flatS] at hl
  | .val _ :: ps, [], [], ts, [], h, hl => by simp [flatS] at hl
  | .io _ _ :: ps, [], [], ts, [], h, hl => by simp [flatS] at hl
  | .val _ :: ps, [], [], ts, t :: tl, h, hl => by
    have ih := flat_ok ps [] [] ts tl h (by simpa [flatS] using hl)
    simp only [List.map_nil, List.nil_append] at ih
    simp only [flatS, List.map_cons, List.map_nil, List.nil_append, flatV, ih]
  | .io _ _ :: ps, [], [], ts, t :: tl, h, hl => by
    have ih := flat_ok ps [] [] ts tl h (by simpa [flatS] using hl)
    simp only [List.map_nil, List.nil_append] at ih
    simp only [flatS, List.map_cons, List.map_nil, List.nil_append, flatV, ih]
theorem ioPairs_key {E : Env S} {st : ST S} : ∀ (ps : List PK) (xs : List Src) (i : Nat) (y1 y : S.den (packTy (argT ps))), packIos E st ps xs y1 = some y → ∀ k j, (k, j) ∈ ioPairs E st i ps xs → ∃ c, st.mems.lookup k = some c
  | [], xs, _, _, _, _, k, j, h => by cases xs <;> cases h
  | _ :: _, [], _, _, _, hp, _, _, _ => by simp [packIos] at hp
  | .val t :: ps, x :: xs, i, y1, y, hp, k, j, h => by
    simp only [packIos] at hp
    split at hp
    · exact ioPairs_key ps xs (i + 1) y1.2 _ (by assumption) k j h
    · cases hp
  | .fn _ _ :: ps, x :: xs, i, y1, y, hp, k, j, h => by
    simp only [packIos] at hp
    split at hp
    · exact ioPairs_key ps xs (i + 1) y1.2 _ (by assumption) k j h
    · cases hp
  | .own _ _ :: ps, x :: xs, i, y1, y, hp, k, j, h => by
    simp only [packIos] at hp
    split at hp
    · exact ioPairs_key ps xs (i + 1) y1.2 _ (by assumption) k j h
    · cases hp
  | .io t m :: ps, x :: xs, i, y1, y, hp, k, j, h => by
    simp only [packIos] at hp
    split at hp
    · rename_i u v e1 e2
      simp only [ioOne] at e1
      split at e1
      · rename_i k0 ex
        split at e1
        · rename_i c hc
          simp only [ioPairs, ex] at h
          rcases List.mem_cons.1 h with e | h
          · cases e; exact ⟨c, hc⟩
          · exact ioPairs_key ps xs (i + 1) y1.2 _ e2 k j h
        · cases e1
      · cases e1
    · cases hp
theorem do_callS {o : Oper} {f : Nat} {F : FSpec S.toNm} {hn : Hint} {κ π : ST S → Option α} {r : α} {keep : Bool} {xs : List Operand} {ts : List Nat} {tl : List Src} (ok : S.Ok) (hok : FnOk g.P F f) (hFo : F.o = none) (hpin : ∀ d, d < a.tmps.size → g.pin d = none) (h : Rel g own st a w) (hd : ∀ d, o.dst = some d → d < a.tmps.size)
    (hx : execOp a.eval o = callFunc f (xs.map a.eval ++ tl.map (evS a)).toArray) (hkp : keep = true → F.ps.any PK.isIo = false) (hκ : callS π g.E hn F (flatS F.ps [] xs ts tl) o.dst st κ = some r) : DoP g π keep o a w κ r := by
  unfold callS at hκ
  · split at hκ
    · cases hκ
    · rename_i y0 st0 hpack0
      split at hκ
      · cases hκ
      rename_i y1 stq hpack
      split at hκ
      · cases hκ
      rename_i st1 hfrz
      split at hκ
      · cases hκ
      · rename_i hdist
        split at hκ
        · cases hκ
        · rename_i x hios
          have hdo := hok.does hFo hκ
          clear hκ
          · obtain ⟨own0, h0, hL, hV0⟩ := packArgs_ok ok F.ps _ own st st0 y0 h hpack0
            obtain ⟨hfn, hfl⟩ := packArgs_fn ok F.ps _ own st st0 y0 h hpack0
            obtain ⟨own1, h1, hN1, hV1, hW1, hOw⟩ : ∃ own1, Rel g own1 st1 a w ∧ (∀ b, own0 b = none → own1 b = none) ∧ ValsR S w (argZ g (!F.apart) own0 w) F.ps ((flatS F.ps [] xs ts tl).map (evS a)) y1 ∧ OwnsR S w (g.Z own1 w) own1 ioBase F.ps ((flatS F.ps [] xs ts tl).map (evS a)) y1 ∧
                (F.ps.any PK.isOwn = true → (∀ k, ownBase ≤ k → st1.mems.lookup k = none) ∧ ∀ j, (st1.look j).deep = false) := by
              obtain ⟨ownq, q1, q2, q3, q4, q5⟩ := takeOwn1_ok ok F.ps _ ioBase own0 st0 stq y0 y1 h0 hpack hV0
              unfold frzIos1 at hfrz
              split at hfrz
              · cases hfrz
                exact ⟨ownq, q1, q2, q3, q4, q5⟩
              · rename_i hno
                obtain ⟨ownz, z1, z2⟩ := frzIos_ok ok F.ps _ ownq stq st1 q1 hfrz
                exact ⟨ownz, z1, fun b hb => z2.none b (q2 b hb), q3, OwnsR.none F.ps _ _ _ hno, fun e => by rw [hno] at e; cases e⟩
            have hV := ValsR.mono (Z' := argZ g (!F.apart) own1 w) (fun b hb => by
              cases hna : F.apart
              · rw [hna] at hb
                have hb : g.Z own0 w b := hb
                exact ⟨hb.1, hb.2.1, hN1 b hb.2.2⟩
              · rw [hna] at hb
                exact hb) _ _ _ hV1
            have hflat : flatV F.ps [] (xs.map a.eval ++ tl.map (evS a)) = _ := flat_ok F.ps [] xs ts tl hfn hfl
            generalize hxs : flatS F.ps [] xs ts tl = ys at *
            generalize hZd : argZ g (!F.apart) own1 w = Z at *
            have hZ1 : ∀ b, g.Z own1 w b → Z b := fun b hb => by
              rw [← hZd]; exact Z_argZ hb
            let pr := ioPairs g.E st1 ioBase F.ps ys
            let prA := pr ++ ownPairs ioBase F.ps
            have hprd : distinct (pr.map Prod.fst) = true := by rw [ioPairs_fst]; exact hdist
            have hkey : ∀ k i, (k, i) ∈ pr → ∃ c, st1.mems.lookup k = some c := ioPairs_key F.ps ys ioBase y1 x hios
            have hprA : distinct (prA.map Prod.fst) = true := by
              rw [List.map_append]
              refine distinct_append _ _ hprd (ownPairs_dist _ _) fun k hk hk' => ?_
              obtain ⟨⟨k1, i⟩, e1, rfl⟩ := List.mem_map.1 hk
              obtain ⟨⟨k2, j⟩, e2, e3⟩ := List.mem_map.1 hk'
              have e4 := (ownPairs_ge _ _ _ _ e2).2
              cases ho : F.ps.any PK.isOwn with
              | false => rw [ownPairs_none _ _ ho] at e2; cases e2
              | true =>
                obtain ⟨c, hc⟩ := hkey _ _ e1
                simp only at e3
                rw [(hOw ho).1 k1 (by omega)] at hc; cases hc
            have hinj : ∀ k k' j, (k, j) ∈ pr → (k', j) ∈ pr → k = k' := fun k k' j => ioPairs_inj F.ps ys ioBase k k' j
            have hks : ∀ k, k ∈ ioMems g.E st1 F.ps ys ↔ ∃ i, (k, i) ∈ pr := fun k => by
              rw [← ioPairs_fst F.ps ys ioBase, List.mem_map]
              exact ⟨fun ⟨p, hp, e⟩ => ⟨p.2, by subst e; exact hp⟩, fun ⟨i, hp⟩ => ⟨_, hp, rfl⟩⟩
            have hinjA : ∀ k k' j, (k, j) ∈ prA → (k', j) ∈ prA → k = k' := fun k k' j e1 e2 => by
              rcases List.mem_append.1 e1 with e1 | e1 <;> rcases List.mem_append.1 e2 with e2 | e2
              · exact hinj _ _ _ e1 e2
              · exact (pairs_apart _ _ _ _ _ _ e1 e2).elim
              · exact (pairs_apart _ _ _ _ _ _ e2 e1).elim
              · rw [(ownPairs_ge _ _ _ _ e1).2, (ownPairs_ge _ _ _ _ e2).2]
            have hap : F.apart = true → (pr = [] ∧ prA = []) ∧ outs F.ps = [] := fun ha => by
              simp only [FSpec.apart, Bool.and_eq_true, Bool.not_eq_true'] at ha
              have := outIO_nil (E := g.E) (st := st1) (xs := ys) ha.2 ioBase
              refine ⟨⟨this.1, ?_⟩, this.2⟩
              show pr ++ ownPairs ioBase F.ps = []
              rw [ownPairs_none _ _ (noIo_noOwn ha.2), List.append_nil]
              exact this.1
            have hin : ∀ b, own1 b = none → ownIn prA own1 b = none := fun b hb => by simp only [ownIn, hb]
            have hArgs : ArgsR S w Z (ownIn prA own1) ioBase F.ps (ys.map (evS a)) x :=
              ios_ok ok h1 hZ1 F.ps ys ioBase y1 x hios hV hW1 (fun k j hkj b l hb => ownIn_some hb (distinct_lookup prA hprA k j (List.mem_append_right _ hkj))) (fun k j hkj => ⟨fun b l hb => ownIn_some hb (distinct_lookup prA hprA k j (List.mem_append_left _ hkj)), fun b hb => by
                obtain ⟨k', i, e1, e2, e3⟩ := ownIn_inv hb
                cases e3
                have := hinjA _ _ _ (List.mem_append_left _ hkj) (lookup_pair prA k' _ e2)
                subst this; exact e1⟩)
            have hargs := fun (R : World → (Nat → Prop) → (Nat → Option Own) → List Value → Prop) => (fun (hok : ∀ (w : World) (Z : Nat → Prop) (own : Nat → Option Own) (vs : List Value),
      (∀ b, Z b → b < w.heap.size ∧ own b = none) → (∀ b, own b ≠ none → b < w.heap.size) → ArgsR S w Z own ioBase F.ps (flatV F.ps [] vs) x → GlobR S w Z → R w Z own vs) => hok w Z (ownIn prA own1) (xs.map a.eval ++ tl.map (evS a)) (fun b hb => by
                rw [← hZd] at hb
                cases hna : F.apart
                · rw [hna] at hb
                  have hb : g.Z own1 w b := hb
                  exact ⟨hb.2.1, hin b hb.2.2⟩
                · rw [hna] at hb
                  have hb : g.A w b := hb
                  have := (hap hna).1.2
                  exact ⟨hb.2, by
                    cases e : ownIn prA own1 b with
                    | none => rfl
                    | some rl =>
                      obtain ⟨k, i, _, e2, _⟩ := ownIn_inv (r := rl.1) (l := rl.2) e
                      rw [this] at e2; cases e2⟩)
              (fun b hb => by
                cases e : own1 b with
                | none => exact absurd (hin b e) hb
                | some rl => exact (h1.fresh b (by rw [e]; simp)).2) (by rw [hflat]; exact hArgs) (h1.glob.frame hZ1 (fun _ _ => rfl)))
            rcases hdo with hdo | ⟨hpi, hno, hdo⟩
            rotate_left
            · have hent := hargs _ hdo
              have hown : ownPairs ioBase F.ps = [] := ownPairs_none _ _ hno
              obtain ⟨own2, h2, hl2, hn2⟩ := Rel.loses (ioMems g.E st1 F.ps ys) h1
              refine dop_gives hx (hent.mono fun w' hL => ⟨_, _, h2.limCallP (own' := own2) (fun b => ownIn prA own1 b ≠ none) hL.os hL.tape hL.output hL.size (fun b hb => ?_) (fun b hb hno => hL.block b hb (Classical.not_not.1 hno)) (fun b hb => rfl) (fun b hb hb' => ?_), hpi⟩) h2.defs
              · cases e : ownIn prA own1 b with
                | none => exact absurd e hb
                | some rl =>
                  obtain ⟨k, i, e1, e2, _⟩ := ownIn_inv (r := rl.1) (l := rl.2) e
                  have e3 := lookup_pair prA k i e2
                  have e3 : (k, i) ∈ pr := by
                    rcases List.mem_append.1 e3 with e3 | e3
                    · exact e3
                    · rw [hown] at e3; cases e3
                  exact ⟨_, hl2 b k _ e1 ((hks k).2 ⟨i, e3⟩)⟩
              · exact absurd (h2.fresh b hb').2 (by omega)
            have hent := hargs _ hdo
            clear hdo
            refine Do.pan ?_
            refine do_entersC hx (Enters.mono hent fun v w' hres => ?_)
            obtain ⟨res, hk2, ownC', hleft, hR, hO⟩ := hres
            split at hk2
            rotate_left
            · cases hk2
            rename_i st2 hput
            rw [hflat] at hO
            obtain ⟨j1, j2, j3⟩ := outs_ok F.ps ys ioBase x y1 res.2 st1 st2 hios hput hO hdist
            let own2 := ownOut pr prA own1 ownC'
            have hlt1 : ∀ b, own1 b ≠ none → b < w.heap.size := fun b hb => (h1.fresh b hb).2
            let kd : Nat → Prop := fun k => ∃ j, (k, j) ∈ ownPairs ioBase F.ps
            have inNone : ∀ b, (∀ k l, k ∈ ioMems g.E st1 F.ps ys ∨ kd k → own1 b ≠ some (.mem k, l)) → ownIn prA own1 b = none := fun b hb => by
              cases e : ownIn prA own1 b with
              | none => rfl
              | some rl =>
                obtain ⟨k, i, e1, e2, _⟩ := ownIn_inv (r := rl.1) (l := rl.2) e
                rcases List.mem_append.1 (lookup_pair prA k i e2) with e3 | e3
                · exact absurd e1 (hb k _ (.inl ((hks k).2 ⟨i, e3⟩)))
                · exact absurd e1 (hb k _ (.inr ⟨i, e3⟩))
            have cNone : ∀ b, b < w.heap.size → ownIn prA own1 b = none → ownC' b = none := fun b hb hi => by
              cases e : ownC' b with
              | none => rfl
              | some _ =>
                rcases (hleft.own b (by rw [e]; simp)).2 with h' | h'
                · omega
                · exact absurd hi h'
            have hZ2 : F.apart = false → ∀ b, zoneOf Z (ownIn prA own1) ownC' w w' b → g.Z own2 w' b := fun hna b hb => by
              obtain ⟨hb1, hb2, hb3⟩ := hb
              have e2 : own2 b = if ownIn prA own1 b = none then own1 b else none := ownOut_none hb3
              rcases hb1 with hb1 | hb1 | hb1
              · have : g.Z own1 w b := by
                  rw [← hZd, hna] at hb1; exact hb1
                exact ⟨this.1, hb2, by rw [e2, if_pos (hin b this.2.2)]; exact this.2.2⟩
              · have hn1 : own1 b = none := by
                  cases e : own1 b with
                  | none => rfl
                  | some _ => have := hlt1 b (by rw [e]; simp); omega
                exact ⟨.inr (.inl (Nat.le_trans h1.size hb1)), hb2, by rw [e2, if_pos (hin b hn1)]; exact hn1⟩
              · have hn1 : own1 b ≠ none := fun e => hb1 (hin b e)
                exact ⟨.inr (h1.fresh b hn1).1, hb2, by rw [e2, if_neg hb1]⟩
            have hrel : Rel g own2 st2 a w' := by
              refine h1.call ok (ks := ioMems g.E st1 F.ps ys) (kd := kd) ⟨fun j => ?_, j2⟩ (fun k ⟨j, hj⟩ => ?_) hleft.os hleft.tape hleft.output hleft.size (fun b hb hno => ?_) (fun b hb => ?_) (fun k b hk hb => ?_) (fun k c' hk hc' => ?_) (fun k hk => ?_)
              · rcases j1 j with e | ⟨e, e1, e2⟩
                · exact .inl e
                · refine .inr ⟨e, fun hor => ?_, e2⟩
                  rcases hor with hor | ⟨k, j', hk⟩
                  · exact e1 hor
                  · cases ho : F.ps.any PK.isOwn with
                    | false => rw [ownPairs_none _ _ ho] at hk; cases hk
                    | true => exact (hOw ho).2 j
              · cases ho : F.ps.any PK.isOwn with
                | false => rw [ownPairs_none _ _ ho] at hj; cases hj
                | true => exact (hOw ho).1 k (by rw [(ownPairs_ge _ _ _ _ hj).2]; omega)
              · have hi := inNone b hno
                refine ⟨hleft.block b hb hi, ?_⟩
                show ownOut pr prA own1 ownC' b = own1 b
                rw [ownOut_none (cNone b hb hi), if_pos hi]
              · by_cases hcb : ownC' b = none
                · have e2 : own2 b = if ownIn prA own1 b = none then own1 b else none := ownOut_none hcb
                  have : own1 b ≠ none := fun e => by rw [e2, e] at hb; split at hb <;> exact hb rfl
                  exact Nat.lt_of_lt_of_le (hlt1 b this) hleft.size
                · exact (hleft.own b hcb).1
              · rcases ownOut_inv hb with ⟨i, _, hp⟩ | ⟨_, e0, e⟩
                · exact absurd ((hks k).2 ⟨i, hp⟩) hk
                · refine ⟨hlt1 b (by rw [e]; simp), fun k' l hk' e' => ?_⟩
                  rw [e] at e'
                  cases e'
                  rcases hk' with hk' | ⟨j, hj⟩
                  · exact hk hk'
                  · rw [ownIn_some e (distinct_lookup prA hprA k j (List.mem_append_right _ hj))] at e0; cases e0
              · obtain ⟨i, hki⟩ := (hks k).1 hk
                obtain ⟨c2, v2, xo, ⟨ex, rfl⟩, hl, hIo, c0, hc0, ht⟩ := j3 k i hki
                rw [hl] at hc'
                cases hc'
                obtain ⟨b, e, cells, f1, f2, f3, f4, f5⟩ := hIo
                have hna : F.apart = false := by
                  cases e : F.apart with
                  | false => rfl
                  | true =>
                    have := (hap e).1.1
                    have hki' : (k, i) ∈ pr := hki
                    rw [this] at hki'; cases hki'
                obtain ⟨xo', q', t', m', y', ex', hI0⟩ := args_io F.ps ys ioBase x hArgs k i hki
                refine ⟨⟨b, e, cells, ownOut_mem hinj f2 hki, f3, OW_frame (hZ2 hna) (fun _ _ => rfl) _ _ _ _ _ _ (fun b' q hb' => ⟨ownOut_mem hinj hb' hki, rfl⟩) f4, fun b' hb' => ?_⟩, fun b0 hb0 => ?_, c0, hc0, ht⟩
                · rcases ownOut_inv hb' with ⟨i', g1, g2⟩ | ⟨_, g2, g3⟩
                  · have e1 := distinct_lookup pr hprd k i hki
                    have e2 := distinct_lookup pr hprd k i' g2
                    rw [e1] at e2
                    cases e2
                    exact f5 b' g1
                  · rw [ownIn_some g3 (distinct_lookup prA hprA k i (List.mem_append_left _ hki))] at g2; cases g2
                · have hav := avS_ok g.E h1 xo 0
                  rw [ex] at hav
                  obtain ⟨bb, off, cs1, c1, hP, v1⟩ := hav
                  obtain ⟨t3, m3, x3, l3, cs3, p1, p2, p3, p4, p5, p6⟩ := hP
                  obtain ⟨b4, e4, cl4, q1, q2, q3, q4⟩ := p3
                  rw [nav_nil] at p5
                  have p5 := congrArg Prod.fst (Option.some.inj p5)
                  rw [q1] at p5
                  simp only [Option.some.injEq, Prod.mk.injEq] at p5
                  obtain ⟨rfl, rfl⟩ := p5
                  rw [f1] at v1
                  have : b = b4 := by simpa using v1
                  subst this
                  obtain ⟨bk, ek, ck, g1, g2, g3, g4⟩ := h1.mems k _ p1
                  have e1 := g4 b0 hb0
                  have e2 := g4 b q2
                  rw [e1, ← e2]
                  exact ownOut_mem hinj f2 hki
              · obtain ⟨i, hki⟩ := (hks k).1 hk
                obtain ⟨c2, v2, xo, _, hl, _⟩ := j3 k i hki
                exact ⟨c2, hl⟩
            have hkeep : keep = true → Below w.heap.size w w' := fun hk => by
              have hk := hkp hk
              have hpr : prA = [] := by
                show pr ++ ownPairs ioBase F.ps = []
                rw [ownPairs_none _ _ (noIo_noOwn hk), List.append_nil]
                exact (outIO_nil hk ioBase).1
              exact ⟨hleft.os, hleft.tape, hleft.output, hleft.size, fun b hb => hleft.block b hb (by
                cases e : ownIn prA own1 b with
                | none => rfl
                | some rl =>
                  obtain ⟨k, i, _, e2, _⟩ := ownIn_inv (r := rl.1) (l := rl.2) e
                  rw [hpr] at e2; cases e2)⟩
            cases hdst : o.dst with
            | none =>
              rw [hdst] at hk2
              exact ⟨own2, st2, hrel, hk2, hkeep⟩
            | some d =>
              rw [hdst] at hk2
              have hdl := hd d hdst
              simp only [putRes] at hk2
              -- the result
              unfold ResR at hR
              split at hR
              · rename_i h0
                rw [h0] at hk2
                exact ⟨own2, _, hrel.put hn hdl (x := .dead) trivial, hk2, hkeep⟩
              · rename_i h0
                rw [h0] at hk2
                have hR2 : Res1 S w' (g.Z own2 w') own2 F.rt F.rm v res.1 := by
                  cases ha : F.apart with
                  | false => exact hR.frame (hZ2 ha) (fun b q hb => ownOut_lim hb)
                  | true =>
                    simp only [FSpec.apart, Bool.and_eq_true] at ha
                    exact res_apart ha.1.1 ha.1.2 hR
                obtain ⟨own3, h3⟩ := put_res hrel hn (hpin d hdl) hdl hR2
                exact ⟨own3, _, h3, hk2, hkeep⟩
              · rename_i n0 n1
                obtain ⟨vs, rfl, hT⟩ := hR
                have hT2 : TupR w' (g.Z own2 w') F.rt res.1 vs.toList := by
                  cases ha : F.apart with
                  | false => exact TupR_frame (hZ2 ha) (fun _ _ => rfl) _ _ _ hT
                  | true =>
                    simp only [FSpec.apart, Bool.and_eq_true] at ha
                    exact scalar_TupR _ _ _ ha.1.1 hT
                have hκ' : κ (st2.put hn d (.tup F.rt F.rm res.1)) = some r := by
                  match hnr : F.nres, n0, n1 with
                  | 0, n0, _ => exact absurd rfl n0
                  | 1, _, n1 => exact absurd rfl n1
                  | n + 2, _, _ => rw [hnr] at hk2; exact hk2
                exact ⟨own2, _, hrel.put hn hdl (x := .tup F.rt F.rm res.1) ⟨vs, rfl, hT2⟩, hκ', hkeep⟩
theorem do_callK {o : Oper} {c : Call} {f : Nat} {F : FSpec S.toNm} {hn : Hint} {κ π : ST S → Option α} {r : α} (ok : S.Ok) (hF : g.E.fs f = some F) (hok : FnOk g.P F f) (hFo : F.o = none) (hpin : ∀ d, d < a.tmps.size → g.pin d = none) (h : Rel g own st a w) (hd : ∀ d, o.dst = some d → d < a.tmps.size)
    (ho : o.op = .call c) (hc : c.callee = .value (.func f)) (hκ : callK π g.E hn F c.args.toList c.argTypes.toList o.dst st κ = some r) : DoP g π (keepsOp g.E o) o a w κ r := by
  refine do_callS ok hok hFo hpin h hd (xs := c.args.toList) (ts := c.argTypes.toList) (tl := []) ?_ (fun hk => ?_) hκ
  · rw [execOp_call ho hc]
    congr 1
    apply Array.ext'; simp
  · simp only [keepsOp, ho, hc, hF, Bool.and_eq_true, Bool.not_eq_true'] at hk
    exact hk.1.1
theorem caps_ok {w : World} {Z : Nat → Prop} : ∀ (ps : List PK) (vs : List Value) (y : S.den (packTy (argT ps))), ps.all PK.isCap = true → S.R w Z (packTy (argT ps)) vs y → ValsR S w Z ps vs y
  | [], vs, y, _, h => by
    have := Cx.R_unit.1 h
    subst this; trivial
  | .val (.box t) :: ps, vs, y, hc, h => by
    simp only [List.all_cons, Bool.and_eq_true] at hc
    obtain ⟨c1, c2, rfl, h2, h3, h4⟩ := Cx.R_pair.1 h
    have h2 : c1.length = 1 := h2
    match c1, h2 with
    | [v], _ => exact ⟨⟨[v], rfl, h3⟩, caps_ok ps c2 y.2 hc.2 h4⟩
  | .io _ _ :: ps, vs, y, hc, h => by simp [PK.isCap] at hc
  | .fn _ _ :: ps, vs, y, hc, h => by simp [PK.isCap] at hc
  | .own _ _ :: ps, vs, y, hc, h => by simp [PK.isCap] at hc
  | .val (.int _) :: ps, vs, y, hc, h => by simp [PK.isCap] at hc
  | .val .bool :: ps, vs, y, hc, h => by simp [PK.isCap] at hc
  | .val .str :: ps, vs, y, hc, h => by simp [PK.isCap] at hc
  | .val (.slice _ _) :: ps, vs, y, hc, h => by simp [PK.isCap] at hc
  | .val (.pair _ _) :: ps, vs, y, hc, h => by simp [PK.isCap] at hc
  | .val (.agg _) :: ps, vs, y, hc, h => by simp [PK.isCap] at hc
  | .val (.ptr _) :: ps, vs, y, hc, h => by simp [PK.isCap] at hc
  | .val (.lptr _) :: ps, vs, y, hc, h => by simp [PK.isCap] at hc
  | .val (.named _) :: ps, vs, y, hc, h => by simp [PK.isCap] at hc
  | .val .unit :: ps, vs, y, hc, h => by simp [PK.isCap] at hc
  | .val (.arr _ _) :: ps, vs, y, hc, h => by simp [PK.isCap] at hc
  | .val (.clo _ _) :: ps, vs, y, hc, h => by simp [PK.isCap] at hc
theorem packC_ok (ok : S.Ok) {E : Env S} {fz : Bool} {u : Ty} {y : S.den u} {vs : List Value} : ∀ (ps : List PK) (xs : List Operand) (ts : List Nat) (own : Nat → Option Own) (st st' : ST S) (z : S.den (packTy (argT ps))), Rel g own st a w →
    S.R w (g.Z own w) u vs y → packC E fz u y ps xs ts st = some (z, st') → ∃ own', Rel g own' st' a w ∧ Lasts own own' ∧ ValsR S w (argZ g fz own' w) ps (xs.map a.eval ++ vs) z
  | ps, [], _, own, st, st', z, h, hy, hp => by
    have hp' : (match ps.all PK.isCap with
      | true => match S.cast u (packTy (argT ps)) y with
        | some z => some (z, st)
        | none => none
      | false => none) = some (z, st') := by
      rw [← hp]; cases ps <;> rfl
    clear hp
    split at hp'
    · rename_i hc
      split at hp'
      · rename_i z' hz
        cases hp'
        obtain ⟨ht, rfl⟩ := cast_some hz
        subst ht
        exact ⟨own, h, .refl, caps_ok ps vs _ hc (hy.frame (fun b hb => Z_argZ hb) (fun _ _ => rfl))⟩
      · cases hp'
    · cases hp'
  | p :: ps, x :: xs, ts, own, st, st', z, h, hy, hp => by
    simp only [packC] at hp
    split at hp
    · rename_i y1 st1 h1
      split at hp
      · rename_i y2 st2 h2
        cases hp
        obtain ⟨own1, k1, k2, k3⟩ := packOne_ok ok h h1
        obtain ⟨own2, j1, j2, j3⟩ := packC_ok ok ps xs ts.tail own1 st1 _ y2 k1 (hy.frame (fun b hb => k2.Z hb) (fun _ _ => rfl)) h2
        exact ⟨own2, j1, k2.trans j2, ValsR.one_mono (fun b hb => argZ_mono j2 hb) k3, j3⟩
      · cases hp
    · cases hp
  | [], _ :: _, _, _, _, _, _, _, _, hp => by simp [packC] at hp
theorem vals_args {w : World} {Z : Nat → Prop} {own : Nat → Option Own} : ∀ (ps : List PK) (i : Nat) (vs : List Value) (y : S.den (packTy (argT ps))), ps.any PK.isIo = false → ValsR S w Z ps vs y → ArgsR S w Z own i ps vs y
  | [], _, [], _, _, _ => trivial
  | .val t :: ps, i, v :: vs, y, hio, h => ⟨h.1, vals_args ps (i + 1) vs y.2 (by simp only [List.any_cons, Bool.or_eq_false_iff] at hio; exact hio.2) h.2⟩
  | .fn _ _ :: ps, i, v :: vs, y, hio, h => ⟨h.1, vals_args ps (i + 1) vs y.2 (by simp only [List.any_cons, Bool.or_eq_false_iff] at hio; exact hio.2) h.2⟩
  | .io _ _ :: ps, i, v :: vs, y, hio, h => by simp [PK.isIo] at hio
  | .own _ _ :: ps, i, v :: vs, y, hio, h => by simp [PK.isIo] at hio
  | [], _, _ :: _, _, _, h => h.elim
  | .val _ :: _, _, [], _, _, h => h.elim
  | .io _ _ :: _, _, [], _, _, h => h.elim
  | .fn _ _ :: _, _, [], _, _, h => h.elim
  | .own _ _ :: _, _, [], _, _, h => h.elim
theorem vals_len {w : World} {Z : Nat → Prop} : ∀ (ps : List PK) (vs : List Value) (y : S.den (packTy (argT ps))), ValsR S w Z ps vs y → vs.length = ps.length
  | [], [], _, _ => rfl
  | p :: ps, v :: vs, y, h => by simp [vals_len ps vs y.2 h.2]
  | [], _ :: _, _, h => h.elim
  | _ :: _, [], _, h => h.elim
theorem resolve_clo {P : Program} {o : Oper} {c : Call} {s f : Nat} {vs : List Value} (ho : o.op = .call c) (hc : c.callee = .value (.tmp s)) (hs : a.tmps.getD s undef = .func (.func f) #[] vs.toArray) :
    execOp a.eval o = callFunc f (c.args.map a.eval ++ vs.toArray) := by
  have e : a.eval (.tmp s) = .func (.func f) #[] vs.toArray := hs
  simp only [execOp, ho, resolve, hc, e, Deferred.ofValue, pure_bind, invoke]
  simp
theorem do_callC {o : Oper} {c : Call} {s : Nat} {hn : Hint} {κ π : ST S → Option α} {r : α} (ok : S.Ok) (hfs : ∀ f F, g.E.fs f = some F → FnOk g.P F f) (hpin : ∀ d, d < a.tmps.size → g.pin d = none) (h : Rel g own st a w) (hd : ∀ d, o.dst = some d → d < a.tmps.size)
    (ho : o.op = .call c) (hc : c.callee = .value (.tmp s)) (hκ : opK π g.E hn o st κ = some r) : DoP g π (keepsOp g.E o) o a w κ r := by
  simp only [opK, ho, hc] at hκ
  split at hκ
  · rename_i f u m y hs
    split at hκ
    · have hvs := h.vals s
      rw [hs] at hvs
      obtain ⟨cs0, hVS0, hR0⟩ := TR_ro.1 hvs
      obtain ⟨vs, hcs, hRu⟩ := Cx.R_clo.1 hR0
      have hval : a.tmps.getD s undef = .func (.func f) #[] vs.toArray := by
        have e : cs0 = [a.tmps.getD s undef] := hVS0
        rw [e] at hcs
        exact (List.cons.inj hcs).1
      unfold callC at hκ
      split at hκ
      · cases hκ
      · rename_i F hF
        split at hκ
        · cases hκ
        rename_i hFo
        have hok := hfs f F hF
        split at hκ
        · cases hκ
        · rename_i hio
          obtain ⟨hio, hfn⟩ := Bool.or_eq_false_iff.1 hio
          split at hκ
          · cases hκ
          · rename_i x st1 hpack
            have hdo := hok.does hFo hκ
            obtain ⟨own1, h1, hL, hV⟩ := packC_ok ok F.ps c.args.toList c.argTypes.toList own st st1 x h hRu hpack
            generalize hZd : argZ g (!F.apart) own1 w = Z at *
            have hArgs : ArgsR S w Z (fun _ => none) ioBase F.ps (c.args.toList.map a.eval ++ vs) x := vals_args F.ps ioBase _ x hio hV
            have hargs := fun (R : World → (Nat → Prop) → (Nat → Option Own) → List Value → Prop) => (fun (hok : ∀ (w : World) (Z : Nat → Prop) (own : Nat → Option Own) (vs : List Value),
      (∀ b, Z b → b < w.heap.size ∧ own b = none) → (∀ b, own b ≠ none → b < w.heap.size) → ArgsR S w Z own ioBase F.ps (flatV F.ps [] vs) x → GlobR S w Z → R w Z own vs) => hok w Z (fun _ => none) (c.args.toList.map a.eval ++ vs) (fun b hb => by
                rw [← hZd] at hb
                cases hna : F.apart
                · rw [hna] at hb
                  have hb : g.Z own1 w b := hb
                  exact ⟨hb.2.1, rfl⟩
                · rw [hna] at hb
                  have hb : g.A w b := hb
                  exact ⟨hb.2, rfl⟩) (fun b hb => absurd rfl hb) (by rw [flatV_none _ _ hfn (vals_len _ _ _ hV)]; exact hArgs) (h1.glob.frame (fun b hb => by rw [← hZd]; exact Z_argZ hb) (fun _ _ => rfl)))
            have hxa : (c.args.toList.map a.eval ++ vs).toArray = c.args.map a.eval ++ vs.toArray := by apply Array.ext'; simp
            rcases hdo with hdo | ⟨hpi, _, hdo⟩
            rotate_left
            · have hent := hargs _ hdo
              rw [hxa] at hent
              exact dop_gives (resolve_clo (P := g.P) ho hc hval) (hent.mono fun w' hL => ⟨own1, st1, h1.keep ⟨hL.os, hL.tape, hL.output, hL.size, fun b hb => hL.block b hb rfl⟩, hpi⟩) h1.defs
            have hent := hargs _ hdo
            rw [hxa] at hent
            refine Do.pan ?_
            refine do_entersC (resolve_clo (P := g.P) ho hc hval) (Enters.mono hent fun v w' hres => ?_)
            obtain ⟨res, hk2, ownC', hleft, hR, _⟩ := hres
            have hlt1 : ∀ b, own1 b ≠ none → b < w.heap.size := fun b hb => (h1.fresh b hb).2
            have cNone : ∀ b, b < w.heap.size → ownC' b = none := fun b hb => by
              cases e : ownC' b with
              | none => rfl
              | some _ =>
                rcases (hleft.own b (by rw [e]; simp)).2 with h' | h'
                · omega
                · exact absurd rfl h'
            let own2 := ownOut [] [] own1 ownC'
            have hown2 : ∀ b, ownC' b = none → own2 b = own1 b := fun b hb => by
              show ownOut [] [] own1 ownC' b = own1 b
              rw [ownOut_none hb]
              have : ownIn [] own1 b = none := by
                cases e : ownIn [] own1 b with
                | none => rfl
                | some rl =>
                  obtain ⟨k, i, _, e2, _⟩ := ownIn_inv (r := rl.1) (l := rl.2) e
                  cases e2
              rw [if_pos this]
            have hZ2 : F.apart = false → ∀ b, zoneOf Z (fun _ => none) ownC' w w' b → g.Z own2 w' b := fun hna b hb => by
              obtain ⟨hb1, hb2, hb3⟩ := hb
              have e2 := hown2 b hb3
              rcases hb1 with hb1 | hb1 | hb1
              · have : g.Z own1 w b := by
                  rw [← hZd, hna] at hb1; exact hb1
                exact ⟨this.1, hb2, by rw [e2]; exact this.2.2⟩
              · have hn1 : own1 b = none := by
                  cases e : own1 b with
                  | none => rfl
                  | some _ => have := hlt1 b (by rw [e]; simp); omega
                exact ⟨.inr (.inl (Nat.le_trans h1.size hb1)), hb2, by rw [e2]; exact hn1⟩
              · exact absurd rfl hb1
            have hkeep : Below w.heap.size w w' := ⟨hleft.os, hleft.tape, hleft.output, hleft.size, fun b hb => hleft.block b hb rfl⟩
            have hrel : Rel g own2 st1 a w' := by
              refine h1.call ok (ks := []) (kd := fun _ => False) ⟨fun i => .inr ⟨rfl, fun e => e.elim (fun e => absurd rfl e) (fun ⟨_, e⟩ => e.elim), fun k hk => by cases hk⟩, fun r _ => rfl⟩ (fun _ h => h.elim) hleft.os hleft.tape hleft.output hleft.size (fun b hb _ => ⟨hleft.block b hb rfl, hown2 b (cNone b hb)⟩) (fun b hb => ?_) (fun k b _ hb => ?_) (fun k c' hk => by cases hk) (fun k hk => by cases hk)
              · by_cases hcb : ownC' b = none
                · have : own1 b ≠ none := fun e => by rw [hown2 b hcb] at hb; exact hb e
                  exact Nat.lt_of_lt_of_le (hlt1 b this) hleft.size
                · exact (hleft.own b hcb).1
              · rcases ownOut_inv hb with ⟨i, _, hp⟩ | ⟨_, _, e⟩
                · cases hp
                · exact ⟨hlt1 b (by rw [e]; simp), fun k l hk => hk.elim (fun hk => by cases hk) (fun hk => hk.elim)⟩
            cases hdst : o.dst with
            | none =>
              rw [hdst] at hk2
              exact ⟨own2, st1, hrel, hk2, fun _ => hkeep⟩
            | some d =>
              rw [hdst] at hk2
              have hdl := hd d hdst
              simp only [putRes] at hk2
              unfold ResR at hR
              split at hR
              · rename_i h0
                rw [h0] at hk2
                exact ⟨own2, _, hrel.put hn hdl (x := .dead) trivial, hk2, fun _ => hkeep⟩
              · rename_i h0
                rw [h0] at hk2
                have hR2 : Res1 S w' (g.Z own2 w') own2 F.rt F.rm v res.1 := by
                  cases ha : F.apart with
                  | false => exact hR.frame (hZ2 ha) (fun b q hb => ownOut_lim hb)
                  | true =>
                    simp only [FSpec.apart, Bool.and_eq_true] at ha
                    exact res_apart ha.1.1 ha.1.2 hR
                obtain ⟨own3, h3⟩ := put_res hrel hn (hpin d hdl) hdl hR2
                exact ⟨own3, _, h3, hk2, fun _ => hkeep⟩
              · rename_i n0 n1
                obtain ⟨vs', rfl, hT⟩ := hR
                have hT2 : TupR w' (g.Z own2 w') F.rt res.1 vs'.toList := by
                  cases ha : F.apart with
                  | false => exact TupR_frame (hZ2 ha) (fun _ _ => rfl) _ _ _ hT
                  | true =>
                    simp only [FSpec.apart, Bool.and_eq_true] at ha
                    exact scalar_TupR _ _ _ ha.1.1 hT
                have hκ' : κ (st1.put hn d (.tup F.rt F.rm res.1)) = some r := by
                  match hnr : F.nres, n0, n1 with
                  | 0, n0, _ => exact absurd rfl n0
                  | 1, _, n1 => exact absurd rfl n1
                  | n + 2, _, _ => rw [hnr] at hk2; exact hk2
                exact ⟨own2, _, hrel.put hn hdl (x := .tup F.rt F.rm res.1) ⟨vs', rfl, hT2⟩, hκ', fun _ => hkeep⟩
    · cases hκ
  · rename_i f cs hs
    have hvs := h.vals s
    rw [hs] at hvs
    obtain ⟨vs, h1, h2⟩ := hvs
    unfold callF at hκ
    split at hκ
    · rename_i hwr
      split at hκ
      · cases hκ
      · rename_i F hF
        split at hκ
        · cases hκ
        · rename_i hFo
          refine do_callS ok (hfs f F hF) hFo hpin h hd (xs := c.args.toList) (ts := c.argTypes.toList) (tl := capsS (.tmp s) cs.length) ?_ (fun hk => ?_) hκ
          · rw [resolve_clo (P := g.P) ho hc h1, h2.len, capsS_ev h1]
            congr 1
            simp
          · simp only [keepsOp, ho, hc, hwr, Bool.not_true] at hk
            cases hk
    · cases hκ
  · cases hκ
end
end Go.Proofs.Ytdnkjfmneppkoaa.Vm
namespace Go.Proofs.Ytdnkjfmneppkoaa.Vm
open Go Go.RowKit
set_option linter.unusedVariables false
section
variable {S : Cx} {α : Type} {g : Gl S} {own : Nat → Option Own} {st : ST S} {a : Act} {w : World}
theorem Rel.limW (h : Rel g own st a w) {b off : Nat} {new : List Value} {q : Option Path} (hb : own b = some (.lim, q)) :
    Rel g own (st.killBy AVal.deep) a (putCells w b off new) := by
  have hbZ : ∀ b', g.Z own w b' → b' ≠ b := fun b' hz e => by rw [e] at hz; rw [hz.2.2] at hb; cases hb
  have hZe : g.Z own (putCells w b off new) = g.Z own w := by funext b'; simp only [Gl.Z, putCells_size]
  have hZw : ∀ b', g.Z own w b' → (putCells w b off new).heap[b']? = w.heap[b']? := fun b' hz => putCells_ne (hbZ b' hz)
  have hne : ∀ b' r q', own b' = some (r, q') → r ≠ .lim → (putCells w b off new).heap[b']? = w.heap[b']? := fun b' r q' hb' hr => putCells_ne (fun e => by
    subst e; rw [hb] at hb'; exact hr (Prod.mk.inj (Option.some.inj hb')).1.symm)
  have hroot : ∀ r', (st.killBy AVal.deep).root r' = st.root r' := fun r' => root_killBy st _ (fun _ _ _ => rfl) rfl r'
  have hRoot : ∀ r' t l cs', RootAt own a w r' t l cs' → RootAt own a (putCells w b off new) r' t l cs' := fun r' t l cs' hR => by
    cases r' with
    | slot s => exact hR
    | lim => exact hR
    | mem k =>
      obtain ⟨b', e', cl, f1, f2, f3, f4⟩ := hR
      exact ⟨b', e', cl, f1, f2, by rw [hne b' _ _ f2 (by simp)]; exact f3, f4⟩
  refine ⟨h.os, h.tape, h.output, by rw [putCells_size]; exact h.size, fun b' hb' hio => ?_, fun b' hb' => by rw [putCells_size]; exact h.fresh b' hb', fun i => ?_, fun k c hk => ?_, h.defs, h.pins⟩
  · rw [putCells_ne]
    · exact h.block b' hb' hio
    · intro e
      subst e
      rcases (h.fresh b' (by rw [hb]; simp)).1 with hf | hf
      · omega
      · exact hio hf
  · rw [look_killBy _ _ _ rfl]
    have hv := h.vals i
    cases hd : (st.look i).deep
    · simp only
      generalize st.look i = A at *
      cases A with
      | dead => trivial
      | und => exact hv
      | v t' m'' y =>
        obtain ⟨cs', e1, e2⟩ := hv
        refine ⟨cs', e1, ?_⟩
        rw [hZe]
        exact OW_frame (fun _ h => h) hZw _ _ _ _ _ _ (fun b' q' hb' => ⟨hb', hne b' _ _ hb' (by simp)⟩) e2
      | tup t' m'' y =>
        obtain ⟨vs, e1, e2⟩ := hv
        exact ⟨vs, e1, by rw [hZe]; exact TupR_frame (fun _ h => h) hZw _ _ _ e2⟩
      | rp t' y =>
        obtain ⟨b', off', cs', e1, e2, e3, e4⟩ := hv
        exact ⟨b', off', cs', e1, by rw [hZe]; exact e2, by rw [cellsAt_same (hZw b' e2)]; exact e3, by rw [hZe]; exact e4.frame (fun _ h => h) hZw⟩
      | ref r' p' =>
        obtain ⟨l1, cs1, c1, e1, e2⟩ := hv
        exact ⟨l1, cs1, c1, Place_world e1 (by simpa [AVal.deep] using hd) (hroot r') (hRoot r'), e2⟩
      | addr r' p' =>
        obtain ⟨b', off', cs1, c1, e1, e2⟩ := hv
        exact ⟨b', off', cs1, c1, Place_world e1 (by simpa [AVal.deep] using hd) (hroot r') (hRoot r'), e2⟩
      | fn g' cs' =>
        obtain ⟨vs, f1, f2⟩ := hv
        refine ⟨vs, f1, f2.mono fun c hcm v hc => ?_⟩
        cases c with
        | d t' y =>
          obtain ⟨b', off', cs', e1, e2, e3, e4⟩ := hc
          exact ⟨b', off', cs', e1, by rw [hZe]; exact e2, by rw [cellsAt_same (hZw b' e2)]; exact e3, by rw [hZe]; exact e4.frame (fun _ h => h) hZw⟩
        | m k =>
          obtain ⟨b', off', cs1, c1, e1, e2⟩ := hc
          exact ⟨b', off', cs1, c1, Place_world e1 rfl (hroot _) (hRoot _), e2⟩
    · trivial
  · obtain ⟨b', e, cells, g1, g2, g3, g4⟩ := h.mems k c hk
    unfold MR
    rw [hZe]
    exact ⟨b', e, cells, g1, by rw [hne b' _ _ g1 (by simp)]; exact g2, OW_frame (fun _ h => h) hZw _ _ _ _ _ _ (fun b'' q' hb' => ⟨hb', hne b'' _ _ hb' (by simp)⟩) g3, g4⟩
theorem slice_cells {t : Ty} {Q : Nat → List Value → S.den t → Prop} (hQ : ∀ i cs y, Q i cs y → ∀ u ∈ cs, u.oneCell' = true) (hpos : 0 < S.size t) {l : List (S.den t)} {ad : Option Addr} (hel : ∀ i y, nth l i = some y → ∃ b off cs', ad = some ⟨b, off, none⟩ ∧ cellsAt w b (off + i * S.size t) (S.size t) = some cs' ∧ Q i cs' y)
    (h0 : 0 < l.length) : ∃ (b off : Nat) (news : List Value), ad = some ⟨b, off, none⟩ ∧ news.length = l.length * S.size t ∧ (∀ (j : Nat) u, news[j]? = some u → w.cell? ((⟨b, off, none⟩ : Addr).add j) = some u) ∧
      (∀ i y, nth l i = some y → Q i ((news.drop (i * S.size t)).take (S.size t)) y) ∧ (∀ u ∈ news, u.oneCell' = true) := by
  obtain ⟨b, off, cs0, rfl, _, _⟩ := hel 0 l[0] (by simp [nth, h0])
  have hel' : ∀ i y, nth l i = some y → ∃ cs', cellsAt w b (off + i * S.size t) (S.size t) = some cs' ∧ Q i cs' y := fun i y hy => by
    obtain ⟨b', off', cs', e1, e2, e3⟩ := hel i y hy
    cases e1; exact ⟨cs', e2, e3⟩
  obtain ⟨csl, hl1, _⟩ := hel' (l.length - 1) l[l.length - 1] (by simp [nth])
  have hmul : (l.length - 1) * S.size t + S.size t = l.length * S.size t := by
    have : l.length = (l.length - 1) + 1 := by omega
    conv => rhs; rw [this, Nat.succ_mul]
  unfold cellsAt at hl1
  cases hb : w.heap[b]? with
  | none => rw [hb] at hl1; cases hl1
  | some o =>
    cases o with
    | cells c e f =>
      rw [hb] at hl1
      simp only at hl1
      split at hl1
      · rename_i hfit
        have hsz : off + l.length * S.size t ≤ c.size := by omega
        have hpiece : ∀ i, i < l.length → (((c.toList.drop off).take (l.length * S.size t)).drop (i * S.size t)).take (S.size t) = (c.toList.drop (off + i * S.size t)).take (S.size t) := fun i hi => by
          have hi2 : i * S.size t + S.size t ≤ l.length * S.size t := by
            rw [← Nat.succ_mul]; exact Nat.mul_le_mul_right _ hi
          rw [List.drop_take, List.drop_drop, List.take_take, Nat.min_eq_left (by omega)]
        have hRi : ∀ i y, nth l i = some y → Q i ((((c.toList.drop off).take (l.length * S.size t)).drop (i * S.size t)).take (S.size t)) y := fun i y hy => by
          obtain ⟨cs', e1, e2⟩ := hel' i y hy
          rw [hpiece i (nth_lt hy)]
          unfold cellsAt at e1
          rw [hb] at e1
          simp only at e1
          split at e1
          · cases e1; exact e2
          · cases e1
        refine ⟨b, off, (c.toList.drop off).take (l.length * S.size t), rfl, ?_, fun j u hu => ?_, hRi, fun u hu => ?_⟩
        · have : c.toList.length = c.size := Array.length_toList
          rw [List.length_take, List.length_drop, this]; exact Nat.min_eq_left (by omega)
        · rw [add_off, cell_of_row w b _ c e f hb]
          rw [List.getElem?_take] at hu
          split at hu
          · rw [List.getElem?_drop] at hu; simpa using hu
          · cases hu
        · obtain ⟨j, hj⟩ := List.getElem?_of_mem hu
          have hjl : j < l.length * S.size t := by
            have := (List.getElem?_eq_some_iff.1 hj).1
            rw [List.length_take] at this; omega
          have hdm := Nat.div_add_mod j (S.size t)
          have hml := Nat.mod_lt j hpos
          have hdl : j / S.size t < l.length := Nat.div_lt_of_lt_mul (by rw [Nat.mul_comm]; exact hjl)
          refine hQ _ _ _ (hRi (j / S.size t) l[j / S.size t] (by simp [nth, hdl])) u ?_
          refine List.mem_of_getElem? (i := j % S.size t) ?_
          rw [List.getElem?_take, if_pos hml, List.getElem?_drop, show j / S.size t * S.size t + j % S.size t = j by rw [Nat.mul_comm]; exact hdm]
          exact hj
      · cases hl1
    | _ => rw [hb] at hl1; cases hl1
theorem piece_left {xs ys : List Value} {i s : Nat} (h : i * s + s ≤ xs.length) : ((xs ++ ys).drop (i * s)).take s = (xs.drop (i * s)).take s := by
  rw [List.drop_append_of_le_length (by omega), List.take_append_of_le_length (by rw [List.length_drop]; omega)]
theorem piece_right {xs ys : List Value} {n i s : Nat} (hx : xs.length = n * s) (h : n ≤ i) : ((xs ++ ys).drop (i * s)).take s = (ys.drop ((i - n) * s)).take s := by
  have : i * s = xs.length + (i - n) * s := by rw [hx, ← Nat.add_mul]; congr 1; omega
  rw [this, List.drop_append, List.drop_of_length_le (by omega), List.nil_append, Nat.add_sub_cancel_left]
theorem run_append_zero {P : Program} (w : World) (t ty e : TypeId) (i : TypeInfo) (ht : P.underlying t = some (.slice e)) (hi : P.info? e = some i) (b ad : Option Addr) (n cap c : Nat) (hc : n ≤ cap) :
    (Builtin.append_ #[t, t] ty #[.slice b n cap, .slice ad 0 c]).run P w = .ok (.slice b n cap) w := by
  have hf : ∀ ad : Option Addr, (Builtin.firstCells i.size 0 (.slice ad 0 c)).run P w = .ok #[] w := fun ad => by
    cases ad with
    | none => simp [Builtin.firstCells]
    | some x => simp [Builtin.firstCells, loadCells, loadCellsFrom]
  cases b with
  | none => simp [Builtin.append_, run_underlying ht, sizeOf, typeInfo, hi, Builtin.lenOf, hc, hf]
  | some x => simp [Builtin.append_, run_underlying ht, sizeOf, typeInfo, hi, Builtin.lenOf, hc, hf, storeCells]
theorem appTake_ok (ok : S.Ok) {E : Env S} (h : Rel g own st a w) {em : Mode} {x : Operand} {t ee : Nat} {u : Ty} {l : List (S.den u)} {st' : ST S} (hx : appTake E em st x t ee u = some (l, st')) (p0 : Path := []) :
    ∃ own', Rel g own' st' a w ∧ Lasts own own' ∧ ((a.eval x = .slice none 0 0 ∧ l = []) ∨ ∃ b c cells, a.eval x = .slice (some ⟨b, 0, none⟩) l.length c ∧ own' b = some (.lim, some p0) ∧
      w.heap[b]? = some (.cells cells ee (0, 0)) ∧ l.length ≤ c ∧ c ≤ maxLen ∧ cells.size = c * S.size u ∧ ∀ i y, nth l i = some y → S.OW w own' (g.Z own' w) .lim u em (p0 ++ [.idx i]) ((cells.toList.drop (i * S.size u)).take (S.size u)) y) := by
  unfold appTake at hx
  split at hx
  · rename_i v
    split at hx
    · rename_i l' hl
      cases hx
      obtain ⟨e1, e2⟩ := lit_slice hl
      exact ⟨own, h, .refl, .inl ⟨by rw [← e1]; rfl, e2⟩⟩
    · cases hx
  · split at hx
    · rename_i e3 t3 m y st1 htk
      split at hx
      · rename_i m'
        split at hx
        · rename_i hm _
          split at hx
          · rename_i l' hcast
            cases hx
            obtain ⟨he, rfl⟩ := cast_some hcast
            cases he
            subst hm
            obtain ⟨own', cs, h1, hVS, hO, hL, _⟩ := take_ok ok E h htk p0
            refine ⟨own', h1, hL, ?_⟩
            have hv : cs = [a.eval x] := hVS
            rcases hO with ⟨e1, e2⟩ | ⟨b, c, cells, e1, e2, e3, e4, e5, e6, e7⟩
            · rw [hv] at e1
              exact .inl ⟨(List.cons.inj e1).1, e2⟩
            · rw [hv] at e1
              exact .inr ⟨b, c, cells, (List.cons.inj e1).1, e2, e3, e4, e5, e6, e7⟩
          · cases hx
        · cases hx
      · cases hx
    · cases hx
theorem appArg_ok (ok : S.Ok) {E : Env S} (h : Rel g own st a w) {em : Mode} {x : Operand} {t ee : Nat} {u : Ty} {l : List (S.den u)} {st' : ST S} (hx : appArg E em st x t ee u = some (l, st')) :
    ∃ own', Rel g own' st' a w ∧ Lasts own own' ∧ em.live = true ∧ ∃ ad c, a.eval x = .slice ad l.length c ∧
      (∀ i y, nth l i = some y → ∃ b off cs', ad = some ⟨b, off, none⟩ ∧ cellsAt w b (off + i * S.size u) (S.size u) = some cs' ∧ S.OW w own' (g.Z own' w) .lim u em [.snd, .idx i] cs' y) := by
  have tk : ∀ em', em = em' → (match st.take E x t with
      | some (⟨.slice e2 t2, m, l⟩, st') => match m with
        | .own m' => match decEq m' em' with
          | isTrue _ => match S.cast (.slice e2 t2) (.slice ee u) l with
            | some l => some (l, st')
            | none => none
          | isFalse _ => none
        | _ => none
      | _ => none) = some (l, st') → ∃ own', Rel g own' st' a w ∧ Lasts own own' ∧ em.live = true ∧ ∃ ad c, a.eval x = .slice ad l.length c ∧
      (∀ i y, nth l i = some y → ∃ b off cs', ad = some ⟨b, off, none⟩ ∧ cellsAt w b (off + i * S.size u) (S.size u) = some cs' ∧ S.OW w own' (g.Z own' w) .lim u em [.snd, .idx i] cs' y) := fun em' hem hx => by
    subst hem
    split at hx
    · rename_i e2 t2 m y st1 htk
      split at hx
      · rename_i m'
        split at hx
        · rename_i hm _
          split at hx
          · rename_i l' hcast
            cases hx
            obtain ⟨he, rfl⟩ := cast_some hcast
            cases he
            subst hm
            obtain ⟨own', cs, h1, hVS, hO, hL, hl⟩ := take_ok ok E h htk [.snd]
            have hv : cs = [a.eval x] := hVS
            refine ⟨own', h1, hL, hl, ?_⟩
            rcases hO with ⟨e1, e2⟩ | ⟨b, c, cells, e1, e2, e3, e4, e5, e6, e7⟩
            · rw [hv] at e1
              subst e2
              exact ⟨none, 0, (List.cons.inj e1).1, fun i y hy => by simp [nth] at hy⟩
            · rw [hv] at e1
              refine ⟨some ⟨b, 0, none⟩, c, (List.cons.inj e1).1, fun i z hz => ⟨b, 0, _, rfl, ?_, e7 i z hz⟩⟩
              have hcell := cellsAt_row e3 (show 0 + i * S.size u + S.size u ≤ cells.size by rw [Nat.zero_add]; exact row_fits (nth_lt hz) e4 e6)
              rw [hcell, Nat.zero_add]
          · cases hx
        · cases hx
      · cases hx
    · cases hx
  unfold appArg at hx
  split at hx
  · rename_i hsc
    split at hx
    · split at hx
      · rename_i e2 t2 m y hv
        split at hx
        · rename_i l' hcast
          cases hx
          obtain ⟨he, rfl⟩ := cast_some hcast
          cases he
          obtain ⟨cs, hVS, hR⟩ := val_ok ok E h hv
          obtain ⟨ad, c, rfl, hc, hel⟩ := Cx.R_slice.1 hR
          refine ⟨own, h, .refl, rfl, ad, c, (List.cons.inj hVS).1.symm, fun i y hy => ?_⟩
          obtain ⟨b, off, cs', k1, k2, k3, k4⟩ := hel i y hy
          exact ⟨b, off, cs', k1, k3, OW_ro.2 (scalar_R _ _ _ hsc k4)⟩
        · cases hx
      · cases hx
    · cases hx
  · split at hx
    · split at hx
      · rename_i e2 t2 m y st1 hv
        split at hx
        · rename_i l' hcast
          cases hx
          obtain ⟨he, rfl⟩ := cast_some hcast
          cases he
          obtain ⟨own', cs, h1, hVS, _, hR, hL⟩ := frz_ok ok E h hv
          obtain ⟨ad, c, rfl, hc, hel⟩ := Cx.R_slice.1 hR
          refine ⟨own', h1, hL, rfl, ad, c, (List.cons.inj hVS).1.symm, fun i y hy => ?_⟩
          obtain ⟨b, off, cs', k1, k2, k3, k4⟩ := hel i y hy
          exact ⟨b, off, cs', k1, k3, OW_ro.2 k4⟩
        · cases hx
      · cases hx
    · rename_i hne
      exact tk em rfl (by cases em <;> first | exact absurd rfl hne | exact hx)
noncomputable def shiftO (own : Nat → Option Own) (n : Nat) : Nat → Option Own := fun b => match own b with
  | some (.lim, some (.snd :: .idx i :: q)) => some (.lim, some (.idx (n + i) :: q))
  | o => o
theorem shiftO_at {own : Nat → Option Own} {n b i : Nat} {q : Path} (h : own b = some (.lim, some (.snd :: .idx i :: q))) : shiftO own n b = some (.lim, some (.idx (n + i) :: q)) := by simp only [shiftO, h]
theorem shiftO_idx {own : Nat → Option Own} {n b i : Nat} {q : Path} (h : own b = some (.lim, some (.idx i :: q))) : shiftO own n b = some (.lim, some (.idx i :: q)) := by simp only [shiftO, h]
theorem shiftO_nil {own : Nat → Option Own} {n b : Nat} (h : own b = some (.lim, some [])) : shiftO own n b = some (.lim, some []) := by simp only [shiftO, h]
theorem shiftO_none {own : Nat → Option Own} {n b : Nat} (h : own b = none) : shiftO own n b = none := by simp only [shiftO, h]
theorem Rel.shift (h : Rel g own st a w) (n : Nat) : Rel g (shiftO own n) st a w := h.lim fun b => by
  unfold shiftO
  split
  · rename_i i q e
    exact .inr ⟨⟨_, e⟩, by simp, by simp⟩
  · exact .inl rfl
theorem do_append {o : Oper} {c : Call} {hn : Hint} {κ π : ST S → Option α} {r : α} (ok : S.Ok) (T : TysOk g.P g.E) (h : Rel g own st a w) (hd : ∀ d, o.dst = some d → d < a.tmps.size)
    (ho : o.op = .call c) (hc : c.callee = .builtin .append) (hκ : opK π g.E hn o st κ = some r) : Do g false o a w κ r := by
  simp only [opK, ho, hc] at hκ
  split at hκ
  · rename_i x y t t' ex et
    have ha : c.args = #[x, y] := by rw [← Array.toList_inj]; exact ex
    have hta : c.argTypes = #[t, t'] := by rw [← Array.toList_inj]; exact et
    split at hκ
    · rename_i htt
      have htt : t = t' := by simpa using htt
      subst htt
      split at hκ
      · rename_i ee u e1
        have hm : ((S.un u).isMap || (S.un u).isClo) = false := by
          cases hm : ((S.un u).isMap || (S.un u).isClo) with
          | false => rfl
          | true => simp only [hm] at hκ; cases hκ
        simp only [hm] at hκ
        generalize hem : appEl g.E st y t u = em at hκ
        split at hκ
        · rename_i l2 st1 e2
          split at hκ
          · rename_i l1 st2 e3
            obtain ⟨hroom, hκ⟩ := must_some hκ
            have hroom : (l1.length + l2.length) * 4096 ≤ 140737488355328 := of_decide_eq_true hroom
            obtain ⟨own1, h1, hL1, hlv, ad, cy, hvy, hely0⟩ := appArg_ok ok h e2
            obtain ⟨own1', h2', hL2, hxx'⟩ := appTake_ok ok h1 e3
            have h2 := h2'.shift l1.length
            generalize hown2 : shiftO own1' l1.length = own2 at h2
            have hsN : ∀ b, g.Z own1' w b → g.Z own2 w b := fun b hb => ⟨hb.1, hb.2.1, by rw [← hown2]; exact shiftO_none hb.2.2⟩
            have hely : ∀ i y, nth l2 i = some y → ∃ b off cs', ad = some ⟨b, off, none⟩ ∧ cellsAt w b (off + i * S.size u) (S.size u) = some cs' ∧ S.OW w own2 (g.Z own2 w) .lim u em [.idx (l1.length + i)] cs' y := fun i y hy => by
              obtain ⟨b, off, cs', q1, q2, q3⟩ := hely0 i y hy
              refine ⟨b, off, cs', q1, q2, OW_frame (fun b hb => hsN b (hL2.Z hb)) (fun _ _ => rfl) _ _ _ _ _ _ (fun b q hb => ⟨?_, rfl⟩) q3⟩
              rw [← hown2]
              exact shiftO_at (hL2.lim b _ hb)
            have hxx : ((a.eval x = .slice none 0 0 ∧ l1 = []) ∨ ∃ b c cells, a.eval x = .slice (some ⟨b, 0, none⟩) l1.length c ∧ own2 b = some (.lim, some []) ∧
                w.heap[b]? = some (.cells cells ee (0, 0)) ∧ l1.length ≤ c ∧ c ≤ maxLen ∧ cells.size = c * S.size u ∧ ∀ i y, nth l1 i = some y → S.OW w own2 (g.Z own2 w) .lim u em [.idx i] ((cells.toList.drop (i * S.size u)).take (S.size u)) y) := by
              rcases hxx' with q | ⟨b, c, cells, q1, q2, q3, q4, q5, q6, q7⟩
              · exact .inl q
              · refine .inr ⟨b, c, cells, q1, by rw [← hown2]; exact shiftO_nil q2, q3, q4, q5, q6, fun i y hy => ?_⟩
                refine OW_frame hsN (fun _ _ => rfl) _ _ _ _ _ _ (fun b q hb => ⟨?_, rfl⟩) (q7 i y hy)
                rw [← hown2]
                exact shiftO_idx hb
            have tf := T _ _ e1
            obtain ⟨hu, he, hpos⟩ := tf.und
            have tfe := T _ _ he
            obtain ⟨ie, ze, hie, hie2, hze, hVz, hby⟩ := tfe.info
            rw [Cx.size_un ok] at hie2
            have hexec : ∀ {v : Value} {w' : World}, (Builtin.append_ #[t, t] o.type #[a.eval x, a.eval y]).run g.P w = .ok v w' → (execOp a.eval o).run g.P w = .ok (.value v) w' := fun hr => by
              simp only [execOp, ho, resolve, hc, ha, hta, pure_bind, Sem.run_bind, invoke, builtin, List.map_toArray, List.map_cons, List.map_nil, hr, Result.andThen_ok]; rfl
            have fin : ∀ {own3 : Nat → Option Own} {v : Value} {w' : World}, Rel g own3 (st2.killBy AVal.deep) a w' → (Builtin.append_ #[t, t] o.type #[a.eval x, a.eval y]).run g.P w = .ok v w' →
                S.OW w' own3 (g.Z own3 w') .lim (.slice ee u) (.own em) [] [v] (List.append l1 l2) → Do g false o a w κ r := fun {own3 v w'} h3 hrun hO => by
              cases hdst : o.dst with
              | none =>
                rw [hdst] at hκ
                exact do_run (hexec hrun) (by rw [hdst]; exact h3) hκ (fun h => by cases h)
              | some d =>
                rw [hdst] at hκ
                obtain ⟨own4, h4⟩ := put_lim h3 hn (hd d hdst) (c := ⟨.slice ee u, .own em, List.append l1 l2⟩) (v := v) rfl hO
                exact do_run (hexec hrun) (by rw [hdst]; exact h4) hκ (fun h => by cases h)
            have hzs : ze.cells.size = S.size u := by
              have hz1 : ze.cells = (zc (S.un u)).toArray := VS_list hVz ((R_zc (S := S) (w := w) (Z := fun _ => False) (S.un u) (tfe.named hm)).one)
              rw [hz1, List.size_toArray]
              exact ((R_zc (S := S) (w := w) (Z := fun _ => False) (S.un u) (tfe.named hm)).len ok).trans (Cx.size_un ok u)
            have happ : List.append l1 l2 = l1 ++ l2 := rfl
            by_cases hm : l2.length = 0
            · -- nothing is appended
              have hl2 : l2 = [] := List.eq_nil_of_length_eq_zero hm
              subst hl2
              simp only [List.length_nil] at hvy
              rcases hxx with ⟨hvx, rfl⟩ | ⟨b, cx', cells, hvx, k2, k3, k4, k5, k6, k7⟩
              · exact fin h2.killDeep (by rw [hvx, hvy]; exact run_append_zero w t o.type ee ie hu hie none ad 0 0 cy (Nat.le_refl _)) (.inl ⟨rfl, rfl⟩)
              · refine fin h2.killDeep (by rw [hvx, hvy]; exact run_append_zero w t o.type ee ie hu hie _ ad _ _ cy k4) ?_
                rw [happ, List.append_nil]
                exact .inr ⟨b, cx', cells, rfl, k2, k3, k4, k5, k6, fun i y hy => k7 i y hy⟩
            · obtain ⟨by_, oy, news, rfl, hnl, hcell, hRn, hone⟩ := slice_cells (Q := fun i cs y => S.OW w own2 (g.Z own2 w) .lim u em [.idx (l1.length + i)] cs y) (fun i cs y hq => OW_one hq hlv) hpos hely (by omega)
              have hcat : ∀ (xs : List Value) (P' : Nat → List Value → S.den u → Prop), xs.length = l1.length * S.size u → (∀ i z, nth l1 i = some z → P' i ((xs.drop (i * S.size u)).take (S.size u)) z) →
                  (∀ i z, nth l2 i = some z → P' (l1.length + i) ((news.drop (i * S.size u)).take (S.size u)) z) → ∀ (rest : List Value) i z, nth (l1 ++ l2) i = some z → P' i (((xs ++ (news ++ rest)).drop (i * S.size u)).take (S.size u)) z := by
                intro xs P' hxl hp1 hp2 rest i z hz
                rcases Nat.lt_or_ge i l1.length with hi | hi
                · rw [piece_left (by rw [hxl, ← Nat.succ_mul]; exact Nat.mul_le_mul_right _ hi)]
                  exact hp1 i z (by simpa [nth, List.getElem?_append_left hi] using hz)
                · have hz2 : nth l2 (i - l1.length) = some z := by simpa [nth, List.getElem?_append_right hi] using hz
                  have := nth_lt hz2
                  rw [piece_right hxl hi, piece_left (by rw [hnl, ← Nat.succ_mul]; exact Nat.mul_le_mul_right _ this)]
                  have hh := hp2 _ z hz2
                  rw [show l1.length + (i - l1.length) = i by omega] at hh
                  exact hh
              have hlen63 : l1.length + l2.length ≤ maxLen := by simp only [maxLen]; omega
              -- a new row
              have grow : ∀ (old : Nat) (xs : List Value), old < l1.length + l2.length → xs.length = l1.length * S.size u → (∀ i z, nth l1 i = some z → S.OW w own2 (g.Z own2 w) .lim u em [.idx i] ((xs.drop (i * S.size u)).take (S.size u)) z) →
                  (Builtin.append_ #[t, t] o.type #[a.eval x, a.eval y]).run g.P w = .ok (.slice (some ⟨w.heap.size, 0, none⟩) (l1.length + l2.length) (grownCap w (l1.length + l2.length) old ee))
                    (w.drew.alloc (.cells (xs.toArray ++ news.toArray ++ Builtin.zeroCells ze.cells (grownCap w (l1.length + l2.length) old ee - (l1.length + l2.length))) ee)) → Do g false o a w κ r := by
                intro old xs hold hxl hxR hrun
                have hge := grownCap_ge w (l1.length + l2.length) old ee
                have hle := grownCap_le_maxLen w (l1.length + l2.length) old ee hlen63
                have hdrew : Below w.heap.size w w.drew := (Below.refl _ w).drew
                obtain ⟨own3, hlab, hrel, hZ3, hsome⟩ := ((h2.killDeep).keep hdrew).newRow (.cells (xs.toArray ++ news.toArray ++ Builtin.zeroCells ze.cells (grownCap w (l1.length + l2.length) old ee - (l1.length + l2.length))) ee) (some [])
                have hbel : Below w.heap.size w (w.drew.alloc (.cells (xs.toArray ++ news.toArray ++ Builtin.zeroCells ze.cells (grownCap w (l1.length + l2.length) old ee - (l1.length + l2.length))) ee)) :=
                  hdrew.trans ((Below.refl _ w.drew).alloc (Nat.le_refl _) _)
                have hZ4 : ∀ b, g.Z own2 w b → g.Z own3 (w.drew.alloc (.cells (xs.toArray ++ news.toArray ++ Builtin.zeroCells ze.cells (grownCap w (l1.length + l2.length) old ee - (l1.length + l2.length))) ee)) b := fun b hb => hZ3 b (Z_keep (Nat.le_refl _) hb)
                have hw4 : ∀ b, g.Z own2 w b → (w.drew.alloc (.cells (xs.toArray ++ news.toArray ++ Builtin.zeroCells ze.cells (grownCap w (l1.length + l2.length) old ee - (l1.length + l2.length))) ee)).heap[b]? = w.heap[b]? := fun b hb => hbel.block b hb.2.1
                refine fin hrel hrun (.inr ⟨w.heap.size, grownCap w (l1.length + l2.length) old ee, _, ?_, hlab, alloc_at, ?_, hle, ?_, ?_⟩)
                · rw [happ, List.length_append]
                · rw [happ, List.length_append]; exact hge
                · rw [Array.size_append, Array.size_append, List.size_toArray, List.size_toArray, hxl, hnl, size_zeroCells, hzs, ← Nat.add_mul, ← Nat.add_mul]
                  congr 1; omega
                · intro i z hz
                  have : (xs.toArray ++ news.toArray ++ Builtin.zeroCells ze.cells (grownCap w (l1.length + l2.length) old ee - (l1.length + l2.length))).toList = xs ++ (news ++ (Builtin.zeroCells ze.cells (grownCap w (l1.length + l2.length) old ee - (l1.length + l2.length))).toList) := by
                    simp only [Array.toList_append, List.append_assoc]
                  rw [this]
                  have hfr : ∀ (i : Nat) (cs : List Value) (z : S.den u), S.OW w own2 (g.Z own2 w) .lim u em [.idx i] cs z → S.OW _ own3 (g.Z own3 _) .lim u em [.idx i] cs z := fun i cs z hq =>
                    OW_frame hZ4 hw4 _ _ _ _ _ _ (fun b q hb => ⟨hsome b _ _ hb, hbel.block b (h2.fresh b (by rw [hb]; simp)).2⟩) hq
                  exact hcat xs (fun i cs z => S.OW _ own3 (g.Z own3 _) .lim u em [.idx i] cs z) hxl (fun i z hz => hfr i _ z (hxR i z hz)) (fun i z hz => hfr _ _ z (hRn i z hz)) _ i z hz
              have hb48 : (l1.length + l2.length) * ie.bytes ≤ 140737488355328 := Nat.le_trans (Nat.mul_le_mul_left _ hby) hroom
              rcases hxx with ⟨hvx, rfl⟩ | ⟨b, cx', cells, hvx, k2, k3, k4, k5, k6, k7⟩
              · refine grow 0 [] (by simp; omega) (by simp) (fun i z hz => by simp [nth] at hz) ?_
                have hr := run_append_nil (P := g.P) w t o.type ee ie ze hu hie hze ⟨by_, oy, none⟩ l2.length cy news (by rw [hnl, hie2]) hcell (by omega) (by simp at hroom; omega) (by simp at hb48; omega)
                rw [hvx, hvy]
                simpa using hr
              · have hxl : (cells.toList.take (l1.length * S.size u)).length = l1.length * S.size u := by
                  have : cells.toList.length = cells.size := Array.length_toList
                  rw [List.length_take, this, k6, Nat.min_eq_left (Nat.mul_le_mul_right _ k4)]
                have hxR : ∀ i z, nth l1 i = some z → S.OW w own2 (g.Z own2 w) .lim u em [.idx i] (((cells.toList.take (l1.length * S.size u)).drop (i * S.size u)).take (S.size u)) z := fun i z hz => by
                  have hi2 : i * S.size u + S.size u ≤ l1.length * S.size u := by
                    rw [← Nat.succ_mul]; exact Nat.mul_le_mul_right _ (nth_lt hz)
                  rw [List.drop_take, List.take_take, Nat.min_eq_left (by omega)]
                  exact k7 i z hz
                have hxc : ∀ (j : Nat) v, (cells.toList.take (l1.length * S.size u))[j]? = some v → w.cell? ((⟨b, 0, none⟩ : Addr).add j) = some v := fun j v hv => by
                  rw [add_off, Nat.zero_add, cell_of_row w b j cells ee (0, 0) k3]
                  rw [List.getElem?_take] at hv
                  split at hv
                  · simpa using hv
                  · cases hv
                by_cases hr : l1.length + l2.length ≤ cx'
                · have hfit : l1.length * S.size u + news.length ≤ cells.size := by rw [hnl, k6, ← Nat.add_mul]; exact Nat.mul_le_mul_right _ hr
                  have hrun := run_append_room (P := g.P) w t o.type ee ie hu hie b l1.length cx' cells k3 ⟨by_, oy, none⟩ l2.length cy news (by rw [hnl, hie2]) hcell hone hr (by rw [hie2]; exact hfit)
                  rw [hie2] at hrun
                  have hput : w.setRow b (cells.toList.take (l1.length * S.size u) ++ news ++ cells.toList.drop (l1.length * S.size u + news.length)).toArray = putCells w b (l1.length * S.size u) news := setRow_putCells k3
                  rw [hput] at hrun
                  have hbZ : ∀ b', g.Z own2 w b' → b' ≠ b := fun b' hz e => by rw [e] at hz; rw [hz.2.2] at k2; cases k2
                  have hZ4 : ∀ b', g.Z own2 w b' → g.Z own2 (putCells w b (l1.length * S.size u) news) b' := fun b' hb => ⟨hb.1, by rw [putCells_size]; exact hb.2.1, hb.2.2⟩
                  have hw4 : ∀ b', g.Z own2 w b' → (putCells w b (l1.length * S.size u) news).heap[b']? = w.heap[b']? := fun b' hb => putCells_ne (hbZ b' hb)
                  refine fin (h2.limW k2) (by rw [hvx, hvy]; exact hrun) (.inr ⟨b, cx', _, ?_, k2, putCells_at k3, ?_, k5, ?_, ?_⟩)
                  · rw [happ, List.length_append]
                  · rw [happ, List.length_append]; exact hr
                  · have : cells.toList.length = cells.size := Array.length_toList
                    rw [List.size_toArray, spl_len (by rw [this]; exact hfit), this]; exact k6
                  · intro i z hz
                    simp only [spl, List.append_assoc]
                    have hfr : ∀ (i : Nat) (cs : List Value) (z : S.den u), S.OW w own2 (g.Z own2 w) .lim u em [.idx i] cs z → S.OW (putCells w b (l1.length * S.size u) news) own2 (g.Z own2 (putCells w b (l1.length * S.size u) news)) .lim u em [.idx i] cs z := fun i cs z hq =>
                      OW_frame hZ4 hw4 _ _ _ _ _ _ (fun b' q hb => ⟨hb, putCells_ne (fun e => by rw [e, k2] at hb; simp at hb)⟩) hq
                    exact hcat _ (fun i cs z => S.OW _ own2 (g.Z own2 _) .lim u em [.idx i] cs z) hxl (fun i z hz => hfr i _ z (hxR i z hz)) (fun i z hz => hfr _ _ z (hRn i z hz)) _ i z hz
                · refine grow cx' _ (by omega) hxl hxR ?_
                  have hrun := run_append_grow (P := g.P) w t o.type ee ie ze hu hie hze ⟨b, 0, none⟩ l1.length cx' _ (by rw [hxl, hie2]) hxc ⟨by_, oy, none⟩ l2.length cy news (by rw [hnl, hie2]) hcell (by omega) (by simp only [maxLen] at hlen63; omega) (growslice_fits (by omega) hb48)
                  rw [hvx, hvy]; exact hrun
          · cases hκ
        · cases hκ
      · cases hκ
    · cases hκ
  · cases hκ
theorem row_of {own' : Nat → Option Own} {x : Operand} {u : Ty} {ee : Nat} {l : List (S.den u)} {p0 : Path} (hsc : u.scalar = true)
    (hxx : (a.eval x = .slice none 0 0 ∧ l = []) ∨ ∃ b c cells, a.eval x = .slice (some ⟨b, 0, none⟩) l.length c ∧ own' b = some (.lim, some p0) ∧
      w.heap[b]? = some (.cells cells ee (0, 0)) ∧ l.length ≤ c ∧ c ≤ maxLen ∧ cells.size = c * S.size u ∧ ∀ i y, nth l i = some y → S.OW w own' (g.Z own' w) .lim u .ro (p0 ++ [.idx i]) ((cells.toList.drop (i * S.size u)).take (S.size u)) y) :
    ORow S w ee u (a.eval x) l ∧ ∀ b, rowOf (a.eval x) = some b → own' b = some (.lim, some p0) := by
  rcases hxx with ⟨k1, k2⟩ | ⟨b, cx, cells, k1, k2, k3, k4, k5, k6, k7⟩
  · exact ⟨.inl ⟨k1, k2⟩, fun b hb => by rw [k1] at hb; cases hb⟩
  · exact ⟨.inr ⟨b, cx, cells, k1, k3, k4, k5, k6, fun i y hy => scalar_R _ _ _ hsc (OW_ro.1 (k7 i y hy))⟩, fun b' hb => by rw [k1] at hb; cases hb; exact k2⟩
theorem ofTwo_eq : ∀ (t : Bool) (xs : List Operand), xs = (ofTwo t xs).1 ++ (ofTwo t xs).2.toList
  | false, xs => by simp [ofTwo]
  | true, xs => by
    have key : ∀ ys : List Operand, ys.reverse = (match ys with | [] => (([], none) : List Operand × Option Operand) | x :: l => (l.reverse, some x)).1 ++ (match ys with | [] => (([], none) : List Operand × Option Operand) | x :: l => (l.reverse, some x)).2.toList := fun ys => by
      cases ys <;> simp
    have := key xs.reverse
    rw [List.reverse_reverse] at this
    exact this
theorem ofTwo_some {t : Bool} {xs : List Operand} {x : Operand} (h : (ofTwo t xs).2 = some x) : t = true := by
  cases t with
  | false => cases h
  | true => rfl
theorem do_callO {o : Oper} {c : Call} {f : Nat} {F : FSpec S.toNm} {O : OSpec S.toNm} {hn : Hint} {κ : ST S → Option α} {r : α} (ok : S.Ok) (T : TysOk g.P g.E) (hF : g.E.fs f = some F) (hFo : F.o = some O) (hok : OsOk g.P O f) (h : Rel g own st a w)
    (hd : ∀ d, o.dst = some d → d < a.tmps.size) (ho : o.op = .call c) (hc : c.callee = .value (.func f)) (hκ : callO g.E hn O c.args.toList c.argTypes.toList o.dst st κ = some r) : Do g (keepsOp g.E o) o a w κ r := by
  have hno : keepsOp g.E o = false := by simp only [keepsOp, ho, hc, hF, hFo]; simp
  -- behind the arguments
  have fin : ∀ (own2 : Nat → Option Own) (st2 : ST S) (x : Operand) (xs zs : List Operand) (y : S.den (packTy (argT O.ps))) (l l2 l' : List (S.den O.u)) (p1 : Path), Rel g own2 st2 a w → O.u.scalar = true → c.args.toList = x :: (xs ++ zs) →
      ORow S w O.e O.u (a.eval x) l → (∀ b, rowOf (a.eval x) = some b → own2 b = some (.lim, some [])) → ValsR S w (g.Z own2 w) O.ps (xs.map a.eval) y →
      (match O.two with | true => ∃ u, zs.map a.eval = [u] ∧ ORow S w O.e O.u u l2 ∧ ∀ b, rowOf u = some b → rowOf (a.eval x) ≠ some b | false => zs.map a.eval = [] ∧ l2 = []) → O.f l y l2 = some l' →
      κ (putCall hn o.dst (.v (.slice O.e O.u) (.own .ro) l') (st2.killBy AVal.deep)) = some r → Do g false o a w κ r := by
    intro own2 st2 x xs zs y l l2 l' p1 h2 hsc ex hrow hlab0 hV2 htwo hf hk
    have hlab : ∀ b, rowOf (a.eval x) = some b → ∃ q, own2 b = some (.lim, q) := fun b hb => ⟨_, hlab0 b hb⟩
    have hent := hok w (g.Z own2 w) (a.eval x) (xs.map a.eval) (zs.map a.eval) l y l2 l' (fun b hb => hb.2.1) hrow (fun b hb hz => by obtain ⟨q, e⟩ := hlab b hb; rw [hz.2.2] at e; cases e) hV2 htwo hf
    have hxa : (a.eval x :: (xs.map a.eval ++ zs.map a.eval)).toArray = c.args.map a.eval := by
      apply Array.ext'
      simp [ex]
    refine do_entersC (execOp_call ho hc) (Enters.mono (by rw [hxa] at hent; exact hent) fun v w' hres => ?_)
    obtain ⟨hos, htape, hout, hsize, hblk, hR, hfr⟩ := hres
    -- whose the new row is
    let own3 : Nat → Option Own := fun b => if b < w.heap.size then own2 b else if rowOf v = some b then some (.lim, some []) else none
    have hlt2 : ∀ b, own2 b ≠ none → b < w.heap.size := fun b hb => (h2.fresh b hb).2
    have hrowlt : ∀ b, rowOf v = some b → b < w'.heap.size := fun b hb => by
      rcases hR with ⟨k1, _⟩ | ⟨b', cx, cells, k1, k2, _⟩
      · rw [k1] at hb; cases hb
      · rw [k1] at hb; cases hb; exact (Array.getElem?_eq_some_iff.1 k2).1
    have hrel : Rel g own3 (st2.killBy AVal.deep) a w' := by
      refine h2.limCall (rowOf (a.eval x)) hos htape hout hsize hlab hblk (fun b hb => by simp [own3, hb]) (fun b hb hn => ?_)
      have hnb : ¬ b < w.heap.size := by omega
      by_cases e : rowOf v = some b
      · exact ⟨hrowlt b e, some [], by simp [own3, hnb, e]⟩
      · exact absurd (by simp [own3, hnb, e]) hn
    have hO : S.OW w' own3 (g.Z own3 w') .lim (.slice O.e O.u) (.own .ro) [] [v] l' := by
      rcases hR with ⟨k1, k2⟩ | ⟨b, cx, cells, k1, k3, k4, k5, k6, k7⟩
      · exact .inl ⟨by rw [k1], k2⟩
      · refine .inr ⟨b, cx, cells, by rw [k1], ?_, k3, k4, k5, k6, fun i y hy => OW_ro.2 (scalar_R _ _ _ hsc (k7 i y hy))⟩
        have hv : rowOf v = some b := by rw [k1]; rfl
        rcases hfr b hv with e | e
        · have h0 := hlab0 b e
          have : b < w.heap.size := hlt2 b (by rw [h0]; simp)
          simp [own3, this, h0]
        · have : ¬ b < w.heap.size := by omega
          simp [own3, this, hv]
    cases hdst : o.dst with
    | none =>
      rw [hdst] at hk
      exact ⟨own3, _, hrel, hk, fun h => by cases h⟩
    | some d =>
      rw [hdst] at hk
      obtain ⟨own4, h4⟩ := put_lim hrel hn (hd d hdst) (c := ⟨.slice O.e O.u, .own .ro, l'⟩) (v := v) rfl hO
      exact ⟨own4, _, h4, hk, fun h => by cases h⟩
  rw [hno]
  unfold callO at hκ
  split at hκ
  · rename_i x xs t ts ex et
    split at hκ
    · rename_i hcond
      simp only [Bool.and_eq_true, Bool.not_eq_true'] at hcond
      obtain ⟨⟨⟨⟨hsc, hmap⟩, hio⟩, hnf⟩, hty⟩ := hcond
      split at hκ
      · rename_i y st1 e1
        split at hκ
        · rename_i l st2 e2
          obtain ⟨own1, h1, hL1, hV⟩ := packArgs_ok ok O.ps _ own st st1 y h e1
          rw [srcT_ev] at hV
          obtain ⟨own2, h2, hL2, hxx⟩ := appTake_ok ok h1 e2 []
          obtain ⟨hrow, hlab0⟩ := row_of hsc hxx
          have hV2 := ValsR.mono (fun b hb => hL2.Z hb) _ _ _ hV
          have hsplit := ofTwo_eq O.two xs
          split at hκ
          · rename_i hnone
            split at hκ
            · rename_i h2f
              obtain ⟨l', hf, hk⟩ := bindR_some hκ
              refine fin own2 st2 x (ofTwo O.two xs).1 [] y l [] l' [] h2 hsc (by rw [ex]; rw [hnone] at hsplit; simpa using hsplit) hrow hlab0 hV2 ?_ hf hk
              rw [h2f]; exact ⟨rfl, rfl⟩
            · cases hκ
          · rename_i x2 hsome
            split at hκ
            · rename_i l2 st3 e3
              obtain ⟨l', hf, hk⟩ := bindR_some hκ
              obtain ⟨own3, h3, hL3, hxx3⟩ := appTake_ok ok h2 e3 [.fst]
              obtain ⟨hrow3, hlab3⟩ := row_of hsc hxx3
              refine fin own3 st3 x (ofTwo O.two xs).1 [x2] y l l2 l' [] h3 hsc (by rw [ex]; rw [hsome] at hsplit; simpa using hsplit) hrow (fun b hb => hL3.lim b _ (hlab0 b hb)) (ValsR.mono (fun b hb => hL3.Z hb) _ _ _ hV2) ?_ hf hk
              rw [ofTwo_some hsome]
              refine ⟨_, rfl, hrow3, fun b hb hb0 => ?_⟩
              have k1 := hlab3 b hb
              have k2 := hL3.lim b _ (hlab0 b hb0)
              rw [k1] at k2; simp at k2
            · cases hκ
        · cases hκ
      · cases hκ
    · cases hκ
  · cases hκ
end
end Go.Proofs.Ytdnkjfmneppkoaa.Vm
namespace Go.Proofs.Ytdnkjfmneppkoaa.Vm
open Go Go.RowKit
set_option linter.unusedVariables false
section
variable {S : Cx} {α : Type}
variable {g : Gl S} {own : Nat → Option Own} {st : ST S} {a : Act} {w : World}
theorem pathNe_ne : ∀ {p q : Path}, pathNe p q = true → p ≠ q
  | s :: p, t :: q, h, e => by
    cases e
    simp only [pathNe, Bool.or_eq_true] at h
    rcases h with h | h
    · cases s <;> simp [stepNe] at h
    · exact pathNe_ne h rfl
  | [], _, h, _ => by simp [pathNe] at h
  | _ :: _, [], h, _ => by simp [pathNe] at h
theorem setP_ne_ro {t' : Ty} {m' : Mode} {y : S.den t'} (hm : m' ≠ .ro) : ∀ (t : Ty) (m : Mode) (q : Path) (x : S.den t) (n : Mode) (z : S.den t), S.setP t' m' y t m q x = some (n, z) → n ≠ .ro := by
  have nil : ∀ (t : Ty) (m : Mode) (x : S.den t) (n : Mode) (z : S.den t), S.setP t' m' y t m [] x = some (n, z) → n ≠ .ro := fun t m x n z h => by
    simp only [Cx.setP] at h
    split at h
    · cases h; exact hm
    · cases h
  intro t
  induction t with
  | slice e t ih =>
    intro m q x n z h
    cases q with
    | nil => exact nil _ m x _ _ h
    | cons s q => cases s with
      | idx i =>
        cases m with
        | own em =>
          simp only [Cx.setP] at h
          split at h
          · split at h
            · cases h; simp
            · cases h
          · cases h
        | _ => cases h
      | _ => cases h
  | pair a b iha ihb =>
    intro m q x n z h
    cases q with
    | nil => exact nil _ m x _ _ h
    | cons s q => cases s with
      | fst =>
        simp only [Cx.setP] at h
        split at h
        · rename_i n' z' hs
          cases h
          have := iha _ _ _ _ _ hs
          cases n' <;> cases hms : m.snd <;> simp_all [Mode.mk]
        · cases h
      | snd =>
        simp only [Cx.setP] at h
        split at h
        · rename_i n' z' hs
          cases h
          have := ihb _ _ _ _ _ hs
          cases n' <;> cases hms : m.fst <;> simp_all [Mode.mk]
        · cases h
      | _ => cases h
  | agg t ih =>
    intro m q x n z h
    cases q with
    | nil => exact nil _ m x _ _ h
    | cons s q => cases s with
      | inn =>
        simp only [Cx.setP] at h
        split at h
        · rename_i n' z' hs
          cases h
          exact ih _ _ _ _ _ hs
        · cases h
      | _ => cases h
  | arr k t ih =>
    intro m q x n z h
    cases q with
    | nil => exact nil _ m x _ _ h
    | cons s q => cases s with
      | el i =>
        cases m with
        | ro =>
          simp only [Cx.setP] at h
          split at h
          · rename_i n' z' hs
            have := ih _ _ _ _ _ hs
            split at h
            · exact absurd rfl this
            · cases h
          · cases h
        | _ => cases h
      | _ => cases h
  | _ =>
    intro m q x n z h
    cases q with
    | nil => exact nil _ m x _ _ h
    | cons s q => cases s <;> cases h
theorem Rel.rowset (ok : S.Ok) (h : Rel g own st a w) {w' : World} {r : Root} {p : Path} {l : Spot} {cs : List Value} {e : Nat} {u : Ty} {x x' : List (S.den u)} {st' : ST S}
    (hp : Place st own a w r p l cs ⟨.slice e u, .own .ro, x⟩) (hs : (st.killBy AVal.deep).setAt r p ⟨.slice e u, .own .ro, x'⟩ = some st')
    (hos : w'.os = w.os) (htape : w'.tape = w.tape) (hout : w'.output = w.output) (hsize : w.heap.size ≤ w'.heap.size)
    (hblk : ∀ b, b < w.heap.size → own b ≠ some (r, some p) → w'.heap[b]? = w.heap[b]?)
    (hnew : S.OW w' own (g.Z own w') r (.slice e u) (.own .ro) p cs x') : Rel g own st' a w' := by
  obtain ⟨t, m, x0, l0, cs0, h1, h2, h3, h4, h5, h6⟩ := hp
  have hroot0 : ∀ r', (st.killBy AVal.deep).root r' = st.root r' := fun r' => root_killBy st _ (fun _ _ _ => rfl) rfl r'
  obtain ⟨t1, m1, x1, n, z, k1, k2, k3⟩ := setAt_some hs
  rw [hroot0, h1] at k1
  cases k1
  have hrl : r ≠ .lim := by rintro rfl; exact h3
  have hlt : ∀ b, own b ≠ none → b < w.heap.size := fun b hb => (h.fresh b hb).2
  have hZ : ∀ b, g.Z own w b → g.Z own w' b := fun b hb => ⟨hb.1, Nat.lt_of_lt_of_le hb.2.1 hsize, hb.2.2⟩
  have hZw : ∀ b, g.Z own w b → w'.heap[b]? = w.heap[b]? := fun b hb => hblk b hb.2.1 (by rw [hb.2.2]; simp)
  have hmemw : ∀ k b, own b = some (.mem k, none) → w'.heap[b]? = w.heap[b]? := fun k b hb => hblk b (hlt b (by rw [hb]; simp)) (by rw [hb]; simp)
  have hother : ∀ b r' q, own b = some (r', q) → r' ≠ r → w'.heap[b]? = w.heap[b]? := fun b r' q hb hr => hblk b (hlt b (by rw [hb]; simp)) (by rw [hb]; intro e; exact hr (Prod.mk.inj (Option.some.inj e)).1)
  have hO := root_OW ok h h1 h3
  have hO' : S.OW w' own (g.Z own w') r t n [] cs0 z :=
    OW_sub2 ok hZ hZw t m p [] l0 cs0 x0 n z hO h4 k2 h5 (fun b q hb hno => ⟨hb, hblk b (hlt b (by rw [hb]; simp)) (by
      rw [hb]; intro e
      have e2 := Option.some.inj (Prod.mk.inj (Option.some.inj e)).2
      simp only [List.nil_append] at e2
      exact hno ⟨[], by rw [e2, List.append_nil]⟩)⟩) (by simpa using hnew)
  have root' : st'.root r = some ⟨t, n, z⟩ := by rw [k3, root_setRoot _ _ _ _ hrl, if_pos rfl]
  have rootne : ∀ r', r' ≠ r → st'.root r' = st.root r' := fun r' hne => by rw [k3, root_setRoot _ _ _ _ hrl, if_neg hne, hroot0]
  have hlook : ∀ i, (∀ s, r = .slot s → i ≠ s) → st'.look i = .dead ∨ (st'.look i = st.look i ∧ (st.look i).deep = false) := fun i hi => by
    have e : st'.look i = (st.killBy AVal.deep).look i := by
      rw [k3]
      cases r with
      | slot s => rw [look_setSlot, if_neg (hi s rfl)]
      | mem k => rfl
      | lim => exact absurd rfl hrl
    rw [e, look_killBy _ _ _ rfl]
    cases hh : (st.look i).deep
    · exact .inr ⟨rfl, rfl⟩
    · exact .inl rfl
  have hRootW : ∀ r' t l cs', RootAt own a w r' t l cs' → RootAt own a w' r' t l cs' := fun r' t l cs' hR => by
    cases r' with
    | slot s => exact hR
    | lim => exact hR
    | mem k =>
      obtain ⟨b', e', cl, f1, f2, f3, f4⟩ := hR
      exact ⟨b', e', cl, f1, f2, by rw [hmemw k b' f2]; exact f3, f4⟩
  -- places
  have hplace : ∀ r' p' l1 cs1 c1, p'.plain = true → Place st own a w r' p' l1 cs1 c1 → ∃ c2, c2.t = c1.t ∧ Place st' own a w' r' p' l1 cs1 c2 := fun r' p' l1 cs1 c1 hpl e1 => by
    by_cases hne : r' = r
    · subst hne
      obtain ⟨t9, m9, x9, l9, cs9, q1, q2, q3, q4, q5, q6⟩ := e1
      rw [h1] at q1
      cases q1
      obtain ⟨m'', x'', hg⟩ := plain_getP _ p' _ _ c1 hpl q6 n z
      refine ⟨⟨c1.t, m'', x''⟩, rfl, t, n, z, l9, cs9, root', fun s hs' => ?_, hRootW _ _ _ _ q3, okP_plain _ p' _ z hpl q4, nav_any _ _ _ _ _ hpl q5, hg⟩
      exact setP_ne_ro (m' := .own .ro) (by simp) _ _ _ _ _ _ k2
    · exact ⟨c1, rfl, Place_world e1 hpl (rootne r' hne) (hRootW r')⟩
  refine ⟨hos.trans h.os, htape.trans h.tape, hout.trans h.output, Nat.le_trans h.size hsize, fun b hb hio => ?_, fun b hb => ⟨(h.fresh b hb).1, Nat.lt_of_lt_of_le (h.fresh b hb).2 hsize⟩, fun i => ?_, fun k c' hk => ?_, h.defs, h.pins⟩
  · refine (hblk b (Nat.lt_of_lt_of_le hb h.size) (fun e => ?_)).trans (h.block b hb hio)
    rcases (h.fresh b (by rw [e]; simp)).1 with hf | hf
    · omega
    · exact hio hf
  · by_cases hi : ∃ s, r = .slot s ∧ i = s
    · obtain ⟨s, rfl, rfl⟩ := hi
      have : st'.look i = .v t n z := by rw [k3, look_setSlot, if_pos rfl]
      rw [this]
      exact ⟨cs0, h3.2, hO'⟩
    · have hi' : ∀ s, r = .slot s → i ≠ s := fun s hs e => hi ⟨s, hs, e⟩
      rcases hlook i hi' with e | ⟨e, hh⟩
      · rw [e]; trivial
      · rw [e]
        have hv := h.vals i
        generalize st.look i = A at *
        cases A with
        | dead => trivial
        | und => exact hv
        | v t' m'' y =>
          obtain ⟨cs', e1, e2⟩ := hv
          exact ⟨cs', e1, OW_frame hZ hZw _ _ _ _ _ _ (fun b q hb => ⟨hb, hother b _ _ hb (fun e => hi' i e.symm rfl)⟩) e2⟩
        | tup t' m'' y =>
          obtain ⟨vs, e1, e2⟩ := hv
          exact ⟨vs, e1, TupR_frame hZ hZw _ _ _ e2⟩
        | rp t' y =>
          obtain ⟨b, off, cs', e1, e2, e3, e4⟩ := hv
          exact ⟨b, off, cs', e1, hZ b e2, by rw [cellsAt_same (hZw b e2)]; exact e3, e4.frame hZ hZw⟩
        | ref r' p' =>
          obtain ⟨l1, cs1, c1, e1, e2⟩ := hv
          obtain ⟨c2, j1, j2⟩ := hplace r' p' l1 cs1 c1 (by simpa [AVal.deep] using hh) e1
          exact ⟨l1, cs1, c2, j2, by rw [j1]; exact e2⟩
        | addr r' p' =>
          obtain ⟨b, off, cs1, c1, e1, e2⟩ := hv
          obtain ⟨c2, j1, j2⟩ := hplace r' p' _ cs1 c1 (by simpa [AVal.deep] using hh) e1
          exact ⟨b, off, cs1, c2, j2, e2⟩
        | fn g' cs' =>
          obtain ⟨vs, f1, f2⟩ := hv
          refine ⟨vs, f1, f2.mono fun c hcm v hc => ?_⟩
          cases c with
          | d t' y =>
            obtain ⟨b', off', cs', e1, e2, e3, e4⟩ := hc
            exact ⟨b', off', cs', e1, hZ b' e2, by rw [cellsAt_same (hZw b' e2)]; exact e3, e4.frame hZ hZw⟩
          | m k =>
            obtain ⟨b', off', cs1, c1, e1, e2⟩ := hc
            obtain ⟨c2, j1, j2⟩ := hplace _ [] _ cs1 c1 rfl e1
            exact ⟨b', off', cs1, c2, j2, e2⟩
  · by_cases hkr : r = .mem k
    · subst hkr
      have hk2 : st'.root (.mem k) = some c' := hk
      rw [root'] at hk2
      cases hk2
      obtain ⟨b, e', cells, g1, g2, g3, g4⟩ := h.mems k ⟨t, m, x0⟩ h1
      obtain ⟨b2, e2, cl, f1, f2, f3, f4⟩ := h3
      have := g4 b2 f2
      subst this
      rw [g2] at f3
      cases f3
      subst f4
      exact ⟨b2, e', cells, g1, by rw [hmemw k b2 g1]; exact g2, hO', g4⟩
    · have hk2 : st'.root (.mem k) = some c' := hk
      rw [rootne _ (fun e => hkr e.symm)] at hk2
      obtain ⟨b, e', cells, g1, g2, g3, g4⟩ := h.mems k c' hk2
      exact ⟨b, e', cells, g1, by rw [hmemw k b g1]; exact g2, OW_frame hZ hZw _ _ _ _ _ _ (fun b' q hb' => ⟨hb', hother b' _ _ hb' (fun e => hkr e.symm)⟩) g3, g4⟩
theorem argR_ok (ok : S.Ok) (h : Rel g own st a w) {r0 : Root} {p0 : Path} {b0 : Option Nat} (hb0 : ∀ b, b0 = some b → own b = some (r0, some p0)) {t : Ty} {y : Operand} {ty : Nat} {κ : S.den t → Option α} {r : α}
    (hκ : argR g.E st r0 p0 t y ty κ = some r) : ∃ x, κ x = some r ∧ ∃ cs, VS t (a.eval y) cs ∧ S.R w (fun b => b < w.heap.size ∧ b0 ≠ some b) t cs x := by
  unfold argR at hκ
  have hv := av_ok g.E h y ty 0
  split at hκ
  · rename_i t' m x e
    rw [e] at hv
    have hm := av_ro g.E e
    subst hm
    obtain ⟨cs, h1, h2⟩ := TR_ro.1 hv
    split at hκ
    · rename_i z hz
      obtain ⟨e', rfl⟩ := cast_some hz
      subst e'
      exact ⟨_, hκ, cs, h1, h2.frame (fun b hb => ⟨hb.2.1, fun e => by have h3 := hb0 b e; rw [hb.2.2] at h3; cases h3⟩) (fun _ _ => rfl)⟩
    · cases hκ
  · rename_i r2 p2 e
    rw [e] at hv
    obtain ⟨l, cs, c, hp, hvs⟩ := hv
    split at hκ
    · rename_i e2 u m x hat
      have := at_place hp hat
      subst this
      split at hκ
      · rename_i hsc
        split at hκ
        · split at hκ
          · split at hκ
            · rename_i z hz
              obtain ⟨e', rfl⟩ := cast_some hz
              subst e'
              obtain ⟨hne, hκ⟩ := must_some hκ
              have hne : ¬ (r0 = r2 ∧ p0 = p2) := by
                rintro ⟨rfl, rfl⟩
                simp only [decide_true, Bool.not_true, Bool.false_or] at hne
                exact pathNe_ne hne rfl
              refine ⟨_, hκ, cs, hvs, ?_⟩
              have hO := place_OW ok h hp (by simp)
              rcases hO with ⟨k1, k2⟩ | ⟨b, cc, cells, k1, k2, k3, k4, k5, k6, k7⟩
              · have k2 : x = [] := k2
                subst k2
                exact Cx.R_slice.2 ⟨none, 0, k1, Nat.le_refl _, fun i y hy => by simp [nth] at hy⟩
              · refine Cx.R_slice.2 ⟨_, cc, k1, k4, fun i y hy => ⟨b, 0, (cells.toList.drop (i * S.size u)).take (S.size u), rfl, ⟨(h.fresh b (by rw [k2]; simp)).2, fun e => ?_⟩, ?_, scalar_R _ _ _ hsc (OW_ro.1 (k7 i y hy))⟩⟩
                · have := hb0 b e
                  rw [k2] at this
                  simp only [Option.some.injEq, Prod.mk.injEq] at this
                  exact hne ⟨this.1.symm, this.2.symm⟩
                · exact cellsAt_row k3 (by rw [Nat.zero_add]; exact row_fits (nth_lt hy) k4 k6) |>.trans (by rw [Nat.zero_add])
            · cases hκ
          · cases hκ
        · cases hκ
      · cases hκ
    · cases hκ
  · cases hκ
theorem packR_ok (ok : S.Ok) (h : Rel g own st a w) {r0 : Root} {p0 : Path} {b0 : Option Nat} (hb0 : ∀ b, b0 = some b → own b = some (r0, some p0)) {r : α} : ∀ (ps : List PK) (ys : List Operand) (ts : List Nat) (κ : S.den (packTy (argT ps)) → Option α),
    packR g.E st r0 p0 ps ys ts κ = some r → ∃ x, κ x = some r ∧ ValsR S w (fun b => b < w.heap.size ∧ b0 ≠ some b) ps (ys.map a.eval) x
  | [], [], ts, κ, hκ => ⟨(), hκ, trivial⟩
  | .val t :: ps, y :: ys, ts, κ, hκ => by
    simp only [packR] at hκ
    obtain ⟨x, h1, h2⟩ := argR_ok ok h hb0 hκ
    obtain ⟨z, h3, h4⟩ := packR_ok ok h hb0 ps ys ts.tail _ h1
    exact ⟨(x, z), h3, h2, h4⟩
  | [], _ :: _, _, _, hκ => by simp [packR] at hκ
  | .io _ _ :: _, _, _, _, hκ => by simp [packR] at hκ
  | .fn _ _ :: _, _, _, _, hκ => by simp [packR] at hκ
  | .own _ _ :: _, _, _, _, hκ => by simp [packR] at hκ
  | .val _ :: _, [], _, _, hκ => by simp [packR] at hκ
theorem do_callR {o : Oper} {c : Call} {f : Nat} {F : FSpec S.toNm} {R : RSpec S.toNm} {hn : Hint} {κ : ST S → Option α} {r : α} (ok : S.Ok) (T : TysOk g.P g.E) (hF : g.E.fs f = some F) (hFo : F.o = none) (hFr : F.r = some R) (hok : RsOk g.P R f) (h : Rel g own st a w)
    (hd : ∀ d, o.dst = some d → d < a.tmps.size) (ho : o.op = .call c) (hc : c.callee = .value (.func f)) (hκ : callR g.E hn R c.args.toList c.argTypes.toList o.dst st κ = some r) : Do g (keepsOp g.E o) o a w κ r := by
  have hno : keepsOp g.E o = false := by simp only [keepsOp, ho, hc, hF, hFo, hFr]; simp
  rw [hno]
  unfold callR at hκ
  split at hκ
  · rename_i x xs t ts ex et
    split at hκ
    · rename_i hcond
      simp only [Bool.and_eq_true] at hcond
      obtain ⟨hsc, hty⟩ := hcond
      split at hκ
      · rename_i rt p ea
        have hv := av_ok g.E h x t 0
        rw [ea] at hv
        obtain ⟨l0, cs, c0, hp, hvs⟩ := hv
        split at hκ
        · rename_i e u m l hat
          have := at_place hp hat
          subst this
          split at hκ
          · split at hκ
            · split at hκ
              · rename_i lz hz
                obtain ⟨e', rfl⟩ := cast_some hz
                injection e' with e1 e2
                subst e1; subst e2
                have hO := place_OW ok h hp (by simp)
                have hcs : cs = [a.eval x] := hvs
                have hrow : ORow S w R.e R.u (a.eval x) l ∧ ∀ b, rowOf (a.eval x) = some b → own b = some (rt, some p) := by
                  rcases hO with ⟨k1, k2⟩ | ⟨b, cc, cells, k1, k2, k3, k4, k5, k6, k7⟩
                  · have k1' : a.eval x = .slice none 0 0 := by rw [hcs] at k1; exact (List.cons.inj k1).1
                    exact ⟨.inl ⟨k1', k2⟩, fun b hb => by rw [k1'] at hb; cases hb⟩
                  · have k1' : a.eval x = .slice (some ⟨b, 0, none⟩) l.length cc := by rw [hcs] at k1; exact (List.cons.inj k1).1
                    exact ⟨.inr ⟨b, cc, cells, k1', k3, k4, k5, k6, fun i y hy => scalar_R _ _ _ hsc (OW_ro.1 (k7 i y hy))⟩, fun b' hb => by rw [k1'] at hb; cases hb; exact k2⟩
                obtain ⟨y, hκ, hV⟩ := packR_ok ok h (b0 := rowOf (a.eval x)) hrow.2 _ _ _ _ hκ
                obtain ⟨l', hf, hk⟩ := bindR_some hκ
                split at hk
                · rename_i st' hs
                  have hent := hok w _ (a.eval x) (xs.map a.eval) l y l' (fun b hb => hb.1) hrow.1 (fun b hb hz => hz.2 hb) hV hf
                  have hxa : (a.eval x :: xs.map a.eval).toArray = c.args.map a.eval := by
                    apply Array.ext'
                    simp [ex]
                  refine do_entersC (execOp_call ho hc) (Enters.mono (by rw [hxa] at hent; exact hent) fun v w' hres => ?_)
                  obtain ⟨hos, htape, hout, hsize, hblk, hR⟩ := hres
                  have hnew : S.OW w' own (g.Z own w') rt (.slice R.e R.u) (.own .ro) p cs l' := by
                    rw [hcs]
                    rcases hR with ⟨k1, k2⟩ | ⟨b, cc, cells, k1, k3, k4, k5, k6, k7⟩
                    · exact .inl ⟨by rw [k1], k2⟩
                    · exact .inr ⟨b, cc, cells, by rw [k1], hrow.2 b (by rw [k1]; rfl), k3, k4, k5, k6, fun i y hy => OW_ro.2 (scalar_R _ _ _ hsc (k7 i y hy))⟩
                  have hrel := h.rowset ok hp hs hos htape hout hsize (fun b hb hno => hblk b hb (fun e => hno (hrow.2 b e))) hnew
                  cases hdst : o.dst with
                  | none =>
                    rw [hdst] at hk
                    exact ⟨own, st', hrel, hk, fun h => by cases h⟩
                  | some d =>
                    rw [hdst] at hk
                    exact ⟨own, _, hrel.put hn (hd d hdst) (x := .dead) trivial, hk, fun h => by cases h⟩
                · cases hk
              · cases hκ
            · cases hκ
          · cases hκ
        · cases hκ
      · cases hκ
    · cases hκ
  · cases hκ
theorem do_call {o : Oper} {c : Call} {f : Nat} {hn : Hint} {κ π : ST S → Option α} {r : α} (ok : S.Ok) (T : TysOk g.P g.E) (hfs : ∀ f F, g.E.fs f = some F → FnOk g.P F f) (hpin : ∀ d, d < a.tmps.size → g.pin d = none) (h : Rel g own st a w) (hd : ∀ d, o.dst = some d → d < a.tmps.size)
    (ho : o.op = .call c) (hc : c.callee = .value (.func f)) (hκ : opK π g.E hn o st κ = some r) : DoP g π (keepsOp g.E o) o a w κ r := by
  simp only [opK, ho, hc] at hκ
  unfold callG at hκ
  split at hκ
  · cases hκ
  · rename_i F hF
    split at hκ
    · rename_i hFo
      split at hκ
      · exact do_callK ok hF (hfs f F hF) hFo hpin h hd ho hc hκ
      · rename_i R hFr
        exact Do.pan <| do_callR ok T hF hFo hFr ((hfs f F hF).row hFo hFr) h hd ho hc hκ
    · rename_i O hFo
      exact Do.pan <| do_callO ok T hF hFo ((hfs f F hF).own hFo) h hd ho hc hκ
end
end Go.Proofs.Ytdnkjfmneppkoaa.Vm
