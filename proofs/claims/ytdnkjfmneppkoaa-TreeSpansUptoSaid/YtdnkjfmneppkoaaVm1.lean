/- A reader of the model s code over plain data, and that it is right of the machine (1). -/
import Derived.Test.YtdnkjfmneppkoaaVm0
import Derived.Laws.Rows
import Derived.Laws.Pointers
import Derived.LaidEql
import Derived.Lib.SliceRun
import Derived.Laws.Small
import Derived.Laws.Slices
import Derived.Laws.Strings
import Derived.Laws.BytesString
import Derived.MapKept
import Derived.Laws.CopyRow
import Derived.Laws.Tables
namespace Go.Proofs.Ytdnkjfmneppkoaa.Vm
open Go Go.RowKit
set_option linter.unusedVariables false
section
variable {S : Cx} {α : Type} {g : Gl S} {own : Nat → Option Own} {st : ST S} {a : Act} {w : World}
theorem cellsAt_take {w : World} {b off n m : Nat} {cs : List Value} (h : cellsAt w b off (n + m) = some cs) : cellsAt w b off n = some (cs.take n) := by
  unfold cellsAt at *
  split at h
  · split at h
    · cases h; rw [if_pos (by omega), List.take_take, Nat.min_eq_left (by omega)]
    · cases h
  · cases h
theorem cellsAt_drop {w : World} {b off n m : Nat} {cs : List Value} (h : cellsAt w b off (n + m) = some cs) : cellsAt w b (off + n) m = some (cs.drop n) := by
  unfold cellsAt at *
  split at h
  · split at h
    · cases h; rw [if_pos (by omega), List.drop_take, List.drop_drop]; congr 2; omega
    · cases h
  · cases h
theorem cellsAt_all {w : World} {b : Nat} {c : Array Value} {e : TypeId} {f : Nat × Nat} (h : w.heap[b]? = some (.cells c e f)) {n : Nat} (hn : c.toList.length = n) : cellsAt w b 0 n = some c.toList := by
  have hs : c.size = n := by rw [← hn, Array.length_toList]
  have : cellsAt w b 0 n = some ((c.toList.drop 0).take n) := cellsAt_row h (by omega)
  rw [this, List.drop_zero, ← hn, List.take_length]
theorem nav_cells {w : World} : ∀ (t : Ty) (q : Path) (m : Mode) (x : S.den t) (l : Spot) (cs : List Value) (l' : Spot) (cs' : List Value) (c : MV S.toNm),
    cs.length = S.size t → (∀ b off, l = some (b, off) → cellsAt w b off (S.size t) = some cs) → S.nav w t l cs q = some (l', cs') → S.getP t m q x = some c →
    cs'.length = S.size c.t ∧ ∀ b off, l' = some (b, off) → cellsAt w b off (S.size c.t) = some cs' := by
  intro t
  induction t with
  | slice e t ih =>
    intro q m x l cs l' cs' c hl hc hn hg
    cases q with
    | nil => cases hn; cases hg; exact ⟨hl, hc⟩
    | cons s q => cases s with
      | idx i =>
        simp only [Cx.nav] at hn
        split at hn
        · rename_i b off _ _
          cases hc' : cellsAt w b (off + i * S.size t) (S.size t) with
          | none => rw [hc'] at hn; cases hn
          | some d =>
            rw [hc'] at hn
            exact ih q m.elem _ _ d l' cs' c (cellsAt_len hc') (fun b' off' he => by cases he; exact hc') hn hg
        · cases hn
      | _ => cases hn
  | pair a b iha ihb =>
    intro q m x l cs l' cs' c hl hc hn hg
    have hs : S.size (Ty.pair a b) = S.size a + S.size b := rfl
    cases q with
    | nil => cases hn; cases hg; exact ⟨hl, hc⟩
    | cons s q => cases s with
      | fst => exact iha q m.fst x.1 l _ l' cs' c (by rw [List.length_take, hl, hs]; omega) (fun b' off' he => cellsAt_take (by rw [← hs]; exact hc b' off' he)) hn hg
      | snd =>
        refine ihb q m.snd x.2 _ _ l' cs' c (by rw [List.length_drop, hl, hs]; omega) (fun b' off' he => ?_) hn hg
        cases l with
        | none => cases he
        | some l => cases he; exact cellsAt_drop (by rw [← hs]; exact hc _ _ rfl)
      | _ => cases hn
  | agg t ih =>
    intro q m x l cs l' cs' c hl hc hn hg
    cases q with
    | nil => cases hn; cases hg; exact ⟨hl, hc⟩
    | cons s q => cases s with
      | inn => exact ih q m x l cs l' cs' c hl hc hn hg
      | _ => cases hn
  | arr n t ih =>
    intro q m x l cs l' cs' c hl hc hn hg
    cases q with
    | nil => cases hn; cases hg; exact ⟨hl, hc⟩
    | cons s q => cases s with
      | el i =>
        have hg := getP_el hg
        obtain ⟨hi, hn⟩ := nav_el hn
        have hs : S.size (Ty.arr n t) = n * S.size t := rfl
        have hf := row_fits (n := n * S.size t) hi (Nat.le_refl _) rfl
        refine ih q m.elem _ _ _ l' cs' c (el_len hl hi) (fun b' off' he => ?_) hn hg
        cases l with
        | none => cases he
        | some l =>
          cases he
          have h0 := hc _ _ rfl
          rw [hs, show n * S.size t = i * S.size t + (n * S.size t - i * S.size t) by omega] at h0
          have h1 := cellsAt_drop h0
          rw [show n * S.size t - i * S.size t = S.size t + (n * S.size t - i * S.size t - S.size t) by omega] at h1
          exact cellsAt_take h1
      | _ => cases hn
  | _ =>
    intro q m x l cs l' cs' c hl hc hn hg
    cases q with
    | nil => cases hn; cases hg; exact ⟨hl, hc⟩
    | cons s q => cases s <;> cases hn
theorem nav_append {w : World} : ∀ (t : Ty) (p q : Path) (m : Mode) (x : S.den t) (l : Spot) (cs : List Value) (l' : Spot) (cs' : List Value) (c : MV S.toNm),
    S.nav w t l cs p = some (l', cs') → S.getP t m p x = some c → S.nav w t l cs (p ++ q) = S.nav w c.t l' cs' q := by
  intro t
  induction t with
  | slice e t ih =>
    intro p q m x l cs l' cs' c hn hg
    cases p with
    | nil => cases hn; cases hg; rfl
    | cons s p => cases s with
      | idx i =>
        simp only [Cx.nav, List.cons_append] at hn ⊢
        split at hn
        · rename_i b off _ _
          cases hc' : cellsAt w b (off + i * S.size t) (S.size t) with
          | none => rw [hc'] at hn; cases hn
          | some d =>
            rw [hc'] at hn
            simp only
            exact ih p q m.elem _ _ d l' cs' c hn hg
        · cases hn
      | _ => cases hn
  | pair a b iha ihb =>
    intro p q m x l cs l' cs' c hn hg
    cases p with
    | nil => cases hn; cases hg; rfl
    | cons s p => cases s with
      | fst => exact iha p q m.fst x.1 _ _ l' cs' c hn hg
      | snd => exact ihb p q m.snd x.2 _ _ l' cs' c hn hg
      | _ => cases hn
  | agg t ih =>
    intro p q m x l cs l' cs' c hn hg
    cases p with
    | nil => cases hn; cases hg; rfl
    | cons s p => cases s with
      | inn => exact ih p q m x _ _ l' cs' c hn hg
      | _ => cases hn
  | arr n t ih =>
    intro p q m x l cs l' cs' c hn hg
    cases p with
    | nil => cases hn; cases hg; rfl
    | cons s p => cases s with
      | el i =>
        have hg := getP_el hg
        obtain ⟨hi, hn⟩ := nav_el hn
        rw [List.cons_append, nav_el_eq hi]
        exact ih p q m.elem _ _ _ l' cs' c hn hg
      | _ => cases hn
  | _ =>
    intro p q m x l cs l' cs' c hn hg
    cases p with
    | nil => cases hn; cases hg; rfl
    | cons s p => cases s <;> cases hn
theorem getP_append : ∀ (t : Ty) (p q : Path) (m : Mode) (x : S.den t) (c : MV S.toNm), S.getP t m p x = some c → S.getP t m (p ++ q) x = S.getP c.t c.m q c.x := by
  intro t
  induction t with
  | slice e t ih =>
    intro p q m x c hg
    cases p with
    | nil => cases hg; rfl
    | cons s p => cases s with
      | idx i => exact ih p q m.elem _ c hg
      | _ => cases hg
  | pair a b iha ihb =>
    intro p q m x c hg
    cases p with
    | nil => cases hg; rfl
    | cons s p => cases s with
      | fst => exact iha p q m.fst x.1 c hg
      | snd => exact ihb p q m.snd x.2 c hg
      | _ => cases hg
  | agg t ih =>
    intro p q m x c hg
    cases p with
    | nil => cases hg; rfl
    | cons s p => cases s with
      | inn => exact ih p q m x c hg
      | _ => cases hg
  | arr n t ih =>
    intro p q m x c hg
    cases p with
    | nil => cases hg; rfl
    | cons s p => cases s with
      | el i =>
        have hg := getP_el hg
        rw [List.cons_append, getP_el_eq]
        exact ih p q m.elem _ c hg
      | _ => cases hg
  | _ =>
    intro p q m x c hg
    cases p with
    | nil => cases hg; rfl
    | cons s p => cases s <;> cases hg
theorem okP_append : ∀ (t : Ty) (p q : Path) (m : Mode) (x : S.den t) (c : MV S.toNm), S.getP t m p x = some c → S.okP t p x → S.okP c.t q c.x → S.okP t (p ++ q) x := by
  intro t
  induction t with
  | slice e t ih =>
    intro p q m x c hg h1 h2
    cases p with
    | nil => cases hg; exact h2
    | cons s p => cases s with
      | idx i => exact ⟨h1.1, ih p q m.elem _ c hg h1.2 h2⟩
      | _ => cases hg
  | pair a b iha ihb =>
    intro p q m x c hg h1 h2
    cases p with
    | nil => cases hg; exact h2
    | cons s p => cases s with
      | fst => exact iha p q m.fst x.1 c hg h1 h2
      | snd => exact ihb p q m.snd x.2 c hg h1 h2
      | _ => cases hg
  | agg t ih =>
    intro p q m x c hg h1 h2
    cases p with
    | nil => cases hg; exact h2
    | cons s p => cases s with
      | inn => exact ih p q m x c hg h1 h2
      | _ => cases hg
  | arr n t ih =>
    intro p q m x c hg h1 h2
    cases p with
    | nil => cases hg; exact h2
    | cons s p => cases s with
      | el i =>
        have hg := getP_el hg
        exact ⟨h1.1, ih p q m.elem _ c hg h1.2 h2⟩
      | _ => cases hg
  | _ =>
    intro p q m x c hg h1 h2
    cases p with
    | nil => cases hg; exact h2
    | cons s p => cases s <;> cases hg
theorem Place.go {r : Root} {p q : Path} {l l' : Spot} {cs cs' : List Value} {c c' : MV S.toNm} (h : Place st own a w r p l cs c) (hok : S.okP c.t q c.x)
    (hn : S.nav w c.t l cs q = some (l', cs')) (hg : S.getP c.t c.m q c.x = some c') : Place st own a w r (p ++ q) l' cs' c' := by
  obtain ⟨t, m, x, l0, cs0, h1, h2, h3, h4, h5, h6⟩ := h
  exact ⟨t, m, x, l0, cs0, h1, h2, h3, okP_append t p q m x c h6 h4 hok, by rw [nav_append t p q m x l0 cs0 l cs c h5 h6]; exact hn, by rw [getP_append t p q m x c h6]; exact hg⟩
theorem Place.cells (ok : S.Ok) (h : Rel g own st a w) {r : Root} {p : Path} {l : Spot} {cs : List Value} {c : MV S.toNm} (hp : Place st own a w r p l cs c) :
    cs.length = S.size c.t ∧ ∀ b off, l = some (b, off) → cellsAt w b off (S.size c.t) = some cs := by
  obtain ⟨t, m, x, l0, cs0, h1, h2, h3, h4, h5, h6⟩ := hp
  cases r with
  | slot s =>
    have hv := h.vals s
    rw [root_slot h1] at hv
    obtain ⟨cs', e1, e2⟩ := hv
    have : cs' = cs0 := by
      have e3 := h3.2
      unfold VS at e1 e3
      cases ht : t.isAgg
      · rw [ht] at e1 e3; exact e1.trans e3.symm
      · rw [ht] at e1 e3; have := e1.symm.trans e3; simpa using this
    subst this
    refine nav_cells t p m x l0 cs' l cs c (OW_len ok _ _ _ _ _ e2) (fun b off he => ?_) h5 h6
    rw [h3.1] at he; cases he
  | lim => exact h3.elim
  | mem k =>
    obtain ⟨b, e, cells, g1, g2, g3, g4⟩ := h.mems k ⟨t, m, x⟩ h1
    obtain ⟨b', e', c', f1, f2, f3, f4⟩ := h3
    have := g4 b' f2
    subst this
    rw [g2] at f3; cases f3; subst f4
    have hl := OW_len ok _ _ _ _ _ g3
    refine nav_cells t p m x l0 _ l cs c hl (fun b off he => ?_) h5 h6
    rw [f1] at he; cases he
    exact cellsAt_all g2 hl
theorem okP_plain : ∀ (t : Ty) (q : Path) (x0 x : S.den t), q.plain = true → S.okP t q x0 → S.okP t q x := by
  intro t
  induction t with
  | slice e t ih =>
    intro q x0 x hp h
    cases q with
    | nil => trivial
    | cons s q => cases s with
      | idx i => simp [plain_cons, Step.isIdx] at hp
      | _ => exact (h : False).elim
  | pair a b iha ihb =>
    intro q x0 x hp h
    cases q with
    | nil => trivial
    | cons s q => cases s with
      | fst => exact iha q x0.1 x.1 (by simpa [plain_cons, Step.isIdx] using hp) h
      | snd => exact ihb q x0.2 x.2 (by simpa [plain_cons, Step.isIdx] using hp) h
      | _ => exact (h : False).elim
  | agg t ih =>
    intro q x0 x hp h
    cases q with
    | nil => trivial
    | cons s q => cases s with
      | inn => exact ih q x0 x (by simpa [plain_cons, Step.isIdx] using hp) h
      | _ => exact (h : False).elim
  | arr n t ih =>
    intro q x0 x hp h
    cases q with
    | nil => trivial
    | cons s q => cases s with
      | el i => exact ⟨h.1, ih q _ _ (by simpa [plain_cons, Step.isIdx] using hp) h.2⟩
      | _ => exact (h : False).elim
  | _ =>
    intro q x0 x hp h
    cases q with
    | nil => trivial
    | cons s q => cases s <;> exact (h : False).elim
theorem fieldGo_ok : ∀ (u : Ty) (f : Nat) (p : Path) (x : S.den u), fieldGo u f = some p → S.okP u p x := by
  intro u
  induction u with
  | pair a b iha ihb =>
    intro f p x h
    cases f with
    | zero => cases h; cases a <;> trivial
    | succ f =>
      simp only [fieldGo] at h
      split at h
      · rename_i q hq; cases h; exact ihb f q x.2 hq
      · cases h
  | arr n t ih => intro f p x h; cases h
  | _ =>
    intro f p x h
    cases f with
    | zero => cases h; trivial
    | succ f => cases h
theorem field_nav {E : Env S} : ∀ (fs : List Field) (u : Ty) (o f : Nat) (p : Path), FieldsOk S E fs u o → fieldGo u f = some p →
    ∃ fd tf, fs[f]? = some fd ∧ o ≤ fd.offset ∧ E.tys.lookup fd.type = some tf ∧ 0 < S.size tf ∧ p.plain = true ∧
      (∀ w l cs, ∃ cs', S.nav w u l cs p = some (l.map (fun x => (x.1, x.2 + (fd.offset - o))), cs') ∧ (cs.length = S.size u → cs' = (cs.drop (fd.offset - o)).take (S.size tf))) ∧
      (∀ m x, ∃ m' x', S.getP u m p x = some ⟨tf, m', x'⟩) := by
  intro fs
  induction fs with
  | nil => intro u o f p h; cases u <;> exact (h : False).elim
  | cons f0 fs ih =>
    intro u o f p h hp
    cases fs with
    | nil =>
      cases u with
      | pair a b => exact (h : False).elim
      | arr n t => cases hp
      | _ =>
        obtain ⟨h1, h2, h3⟩ := h
        cases f with
        | zero =>
          cases hp
          exact ⟨f0, _, rfl, by omega, h2, h3, rfl, fun w l cs => ⟨cs, by rw [show f0.offset - o = 0 by omega]; cases l <;> rfl, fun hl => by rw [show f0.offset - o = 0 by omega, List.drop_zero, ← hl, List.take_length]⟩, fun m x => ⟨m, x, rfl⟩⟩
        | succ f => cases hp
    | cons f1 fs =>
      cases u with
      | pair a b =>
        obtain ⟨h1, h2, h3, h4⟩ := h
        cases f with
        | zero =>
          cases hp
          refine ⟨f0, a, rfl, by omega, h2, h3, rfl, fun w l cs => ⟨cs.take (S.size a), ?_, fun _ => by rw [show f0.offset - o = 0 by omega, List.drop_zero]⟩, fun m x => ⟨m.fst, x.1, by cases a <;> rfl⟩⟩
          rw [show f0.offset - o = 0 by omega]
          cases l <;> cases a <;> rfl
        | succ f =>
          simp only [fieldGo] at hp
          split at hp
          · rename_i q hq
            cases hp
            obtain ⟨fd, tf, e1, e2, e3, e4, e5, e6, e7⟩ := ih b (o + S.size a) f q h4 hq
            refine ⟨fd, tf, e1, by omega, e3, e4, by simp [plain_cons, Step.isIdx, e5], fun w l cs => ?_, fun m x => e7 m.snd x.2⟩
            obtain ⟨cs', n1, n2⟩ := e6 w (l.map fun x => (x.1, x.2 + S.size a)) (cs.drop (S.size a))
            refine ⟨cs', ?_, fun hl => ?_⟩
            · simp only [Cx.nav]
              rw [n1]
              cases l with
              | none => rfl
              | some l => simp; omega
            · have hs : S.size (Ty.pair a b) = S.size a + S.size b := rfl
              rw [n2 (by rw [List.length_drop, hl, hs]; omega), List.drop_drop]
              congr 2; omega
          · cases hp
      | _ => exact (h : False).elim
end
end Go.Proofs.Ytdnkjfmneppkoaa.Vm
namespace Go.Proofs.Ytdnkjfmneppkoaa.Vm
open Go Go.RowKit
set_option linter.unusedVariables false
section
variable {S : Cx} {α : Type} {g : Gl S} {own : Nat → Option Own} {st : ST S} {a : Act} {w : World}
theorem run_move {P : Program} {ρ : Operand → Value} {o : Oper} {x : Operand} (ho : o.op = .move x ∨ o.op = .assign x) (w : World) : (execOp ρ o).run P w = .ok (.value (ρ x)) w := by
  rcases ho with ho | ho <;> simp only [execOp, ho] <;> rfl
theorem rd_move {o : Oper} {x : Operand} {hn : Hint} {κ π : ST S → Option α} {r : α} (h : Rel g own st a w) (hd : ∀ d, o.dst = some d → d < a.tmps.size)
    (ho : o.op = .move x) (hκ : opK π g.E hn o st κ = some r) : Rd g o a w κ r := by
  simp only [opK, ho] at hκ
  exact rd_putK hn h hd (fun w' _ => run_move (.inl ho) w') (av_ok g.E h x o.type 0) (fun t m y e => av_ro g.E e) hκ
theorem ro_int {k : IntKind} {n : Int} : RoV g own w (.int k) n (.int k n) := ⟨_, rfl, Cx.R_int.2 rfl⟩
theorem ro_bool {n : Bool} : RoV g own w .bool n (.bool n) := ⟨_, rfl, Cx.R_bool.2 rfl⟩
theorem ro_str {n : List UInt8} : RoV g own w .str n (.string (ByteArray.mk (Array.mk n))) := ⟨_, rfl, Cx.R_str.2 rfl⟩
theorem run_v {P : Program} {s : Sem Value} {v : Value} {w : World} (h : s.run P w = .ok v w) : (do pure (Next.value (← s)) : Sem Next).run P w = .ok (.value v) w := by
  simp only [Sem.run_bind, h, Result.andThen_ok]; rfl
theorem rd_pick {o : Oper} {c x y : Operand} {hn : Hint} {κ π : ST S → Option α} {r : α} (ok : S.Ok) (h : Rel g own st a w) (hd : ∀ d, o.dst = some d → d < a.tmps.size)
    (ho : o.op = .pick c x y) (hκ : opK π g.E hn o st κ = some r) : Rd g o a w κ r := by
  simp only [opK, ho] at hκ
  split at hκ
  · rename_i b hb
    have hc := bool_ok ok g.E h hb
    have hκ := ask_some hκ
    have hrun : ∀ w', (execOp a.eval o).run g.P w' = .ok (.value (if b then a.eval x else a.eval y)) w' := fun w' => by
      simp only [execOp, ho, hc]
      cases b <;> rfl
    cases b with
    | true => exact rd_putK hn h hd (fun w' _ => hrun w') (av_ok g.E h x o.type 0) (fun t m y e => av_ro g.E e) hκ
    | false => exact rd_putK hn h hd (fun w' _ => hrun w') (av_ok g.E h y o.type 0) (fun t m y e => av_ro g.E e) hκ
  · cases hκ
theorem BinV.ro {c : MV S.toNm} {z : Value} (h : BinV w c z) : c.m = .ro ∧ RoV g own w c.t c.x z :=
  ⟨h.2.2, [z], h.1, h.2.1.frame (fun _ h => h.elim) (fun _ h => h.elim)⟩
theorem rd_un {o : Oper} {op : UnOp} {xt : TypeId} {x : Operand} {hn : Hint} {κ π : ST S → Option α} {r : α} (ok : S.Ok) (h : Rel g own st a w) (hd : ∀ d, o.dst = some d → d < a.tmps.size)
    (ho : o.op = .unOp op xt x) (hκ : opK π g.E hn o st κ = some r) : Rd g o a w κ r := by
  simp only [opK, ho] at hκ
  split at hκ
  · rename_i m y e
    have v1 : a.eval x = .bool y := bool_ok ok g.E h (show asBool (st.val g.E x o.type) = some y by rw [e]; rfl)
    refine rd_put hn h hd (fun w' _ => ?_) (v := .bool (notB y)) ro_bool hκ
    simp only [execOp, ho, v1]; rfl
  · rename_i k m y e
    have v1 : a.eval x = .int k y := int_ok ok g.E h (show asInt (st.val g.E x o.type) = some (k, y) by rw [e]; rfl)
    refine rd_put hn h hd (fun w' _ => ?_) (v := .int k (negI k y)) ro_int hκ
    simp only [execOp, ho, v1]; rfl
  · rename_i k m y e
    have v1 : a.eval x = .int k y := int_ok ok g.E h (show asInt (st.val g.E x o.type) = some (k, y) by rw [e]; rfl)
    refine rd_put hn h hd (fun w' _ => ?_) (v := .int k (notI k y)) ro_int hκ
    simp only [execOp, ho, v1]; rfl
  · cases hκ
theorem ba_get (s : List UInt8) (i : Nat) (h : i < s.length) : (ByteArray.mk (Array.mk s))[i]? = some (s.getD i 0) := by
  rw [getElem?_pos (ByteArray.mk (Array.mk s)) i h, List.getD_eq_getElem?_getD, List.getElem?_eq_getElem h]
  rfl
end
end Go.Proofs.Ytdnkjfmneppkoaa.Vm
namespace Go.Proofs.Ytdnkjfmneppkoaa.Vm
open Go Go.RowKit
set_option linter.unusedVariables false
section
variable {S : Cx} {α : Type} {g : Gl S} {own : Nat → Option Own} {st : ST S} {a : Act} {w : World}
def valOf (t : Ty) (cs : List Value) : Value := match t.isAgg with | true => .agg cs.toArray | false => cs.headD undef
theorem VS_valOf {t : Ty} {cs : List Value} (h : t.isAgg = false → cs.length = 1) : VS t (valOf t cs) cs := by
  unfold VS valOf
  cases ht : t.isAgg
  · have := h ht
    match cs, this with
    | [v], _ => rfl
  · rfl
theorem size_scalar {t : Ty} (h : t.isAgg = false) (hn : t ≠ .unit) (hp : ∀ a b, t ≠ .pair a b) : S.size t = 1 := by
  cases t with
  | pair a b => exact absurd rfl (hp a b)
  | unit => exact absurd rfl hn
  | agg t => cases h
  | named n => cases h
  | arr n t => cases h
  | _ => rfl
theorem add_off (b off n : Nat) : (⟨b, off, none⟩ : Addr).add n = ⟨b, off + n, none⟩ := by
  unfold Addr.add; split <;> simp_all
theorem cell_of {w : World} {b off n : Nat} {cs : List Value} (h : cellsAt w b off n = some cs) : ∀ j v, cs[j]? = some v → w.cell? ((⟨b, off, none⟩ : Addr).add j) = some v := by
  intro j v hv
  rw [add_off]
  unfold cellsAt at h
  split at h
  · rename_i c e f hb
    split at h
    · cases h
      rw [List.getElem?_take, List.getElem?_drop] at hv
      split at hv
      · simp [World.cell?, hb]; simpa using hv
      · cases hv
    · cases h
  · cases h
theorem und_shape {P : Program} {E : Env S} {t : Nat} {ty : Ty} (h : TyFact P E t ty) (w : World) : (isAgg t).run P w = .ok ty.isAgg w := by
  have hu := h.und
  cases ty with
  | int k => simp only [Go.isAgg, Sem.run_bind, run_underlying (d := .int k) hu, Result.andThen_ok]; rfl
  | bool => simp only [Go.isAgg, Sem.run_bind, run_underlying (d := .bool) hu, Result.andThen_ok]; rfl
  | str => simp only [Go.isAgg, Sem.run_bind, run_underlying (d := .string) hu, Result.andThen_ok]; rfl
  | slice e u => simp only [Go.isAgg, Sem.run_bind, run_underlying hu.1, Result.andThen_ok]; rfl
  | ptr n => obtain ⟨e, i, h1, _⟩ := hu; simp only [Go.isAgg, Sem.run_bind, run_underlying h1, Result.andThen_ok]; rfl
  | lptr n => obtain ⟨e, i, h1, _⟩ := hu; simp only [Go.isAgg, Sem.run_bind, run_underlying h1, Result.andThen_ok]; rfl
  | agg u =>
    rcases hu with ⟨fs, h1, _⟩ | ⟨n, v, e, _, h1, _⟩
    · simp only [Go.isAgg, Sem.run_bind, run_underlying h1, Result.andThen_ok]; rfl
    · simp only [Go.isAgg, Sem.run_bind, run_underlying h1, Result.andThen_ok]; rfl
  | map k v => obtain ⟨kt, et, h1, _⟩ := hu; simp only [Go.isAgg, Sem.run_bind, run_underlying h1, Result.andThen_ok]; rfl
  | clo f u => obtain ⟨ps, rs, v, h1⟩ := hu; simp only [Go.isAgg, Sem.run_bind, run_underlying h1, Result.andThen_ok]; rfl
  | _ => exact (hu : False).elim
theorem und_ne {P : Program} {E : Env S} {t : Nat} {ty : Ty} (h : TyFact P E t ty) : ty ≠ .unit ∧ ∀ a b, ty ≠ .pair a b := by
  have hu := h.und
  constructor
  · rintro rfl; exact hu
  · rintro a b rfl; exact hu
theorem run_loadAt {P : Program} {E : Env S} {t : Nat} {ty : Ty} (h : TyFact P E t ty) {b off : Nat} {cs : List Value} {w : World} (hc : cellsAt w b off (S.size ty) = some cs) :
    (Instr.loadAt t (.pointer (some ⟨b, off, none⟩))).run P w = .ok (valOf ty cs) w := by
  have hl := cellsAt_len hc
  have hcell := cell_of hc
  simp only [Instr.loadAt, Instr.sureAddr, pure_bind, loadVar, Sem.run_bind, und_shape h w, Result.andThen_ok]
  cases ht : ty.isAgg
  · obtain ⟨h1, h2⟩ := und_ne h
    have h1s : cs.length = 1 := hl.trans (size_scalar ht h1 h2)
    match cs, h1s with
    | [v], _ =>
      have := hcell 0 v rfl
      rw [add_off, Nat.add_zero] at this
      simp only [Bool.false_eq_true, if_false, load, Sem.run, this, valOf, ht]
      rfl
  · simp only [if_true, Sem.run_bind, h.size w, Result.andThen_ok]
    rw [← hl, run_loadCells_list w ⟨b, off, none⟩ cs hcell]
    simp only [valOf, ht, Result.andThen_ok]
    rfl
theorem VS_cells {t : Ty} {cs : List Value} (hl : cs.length = S.size t) (hn : t ≠ .unit) (hp : ∀ a b, t ≠ .pair a b) : VS t (valOf t cs) cs :=
  VS_valOf fun ht => hl.trans (size_scalar ht hn hp)
theorem isB_load {P : Program} {E : Env S} (T : TysOk P E) {e : Nat} {t : Ty} (ht : E.isB e t = true) :
    (∀ {b off : Nat} {cs : List Value} {w : World}, cellsAt w b off (S.size t) = some cs → (Instr.loadAt e (.pointer (some ⟨b, off, none⟩))).run P w = .ok (valOf t cs) w) ∧ t ≠ .unit ∧ (∀ a b, t ≠ .pair a b) := by
  obtain ⟨u, h1, h2, h3, h4⟩ := isB_lookup ht
  have tf := T _ _ h1
  refine ⟨fun hc => ?_, ?_⟩
  · have := run_loadAt tf (by rw [h2]; exact hc)
    rw [this]
    unfold valOf
    rw [h3]
  · cases hu : u.isClo with
    | false => rw [← h4 hu]; exact und_ne tf
    | true =>
      rcases isB_ne ht with ⟨f, u', rfl⟩ | h
      · exact ⟨by simp, by simp⟩
      · rw [h1] at h; cases h; exact und_ne tf
theorem rd_load {o : Oper} {e : TypeId} {x : Operand} {hn : Hint} {κ π : ST S → Option α} {r : α} (ok : S.Ok) (T : TysOk g.P g.E) (h : Rel g own st a w) (hd : ∀ d, o.dst = some d → d < a.tmps.size)
    (ho : o.op = .load e x) (hκ : opK π g.E hn o st κ = some r) : Rd g o a w κ r := by
  simp only [opK, ho] at hκ
  have hv := av_ok g.E h x 0 0
  split at hκ
  · rename_i t y ex
    rw [ex] at hv
    obtain ⟨b, off, cs, v1, hb, hc, hR⟩ := hv
    split at hκ
    · rename_i ht
      have tf := isB_load T ht
      refine rd_put hn h hd (fun w' hw' => ?_) (v := valOf t cs) ⟨cs, VS_cells (cellsAt_len hc) tf.2.1 tf.2.2, hR⟩ hκ
      simp only [execOp, ho, v1]
      exact run_v (tf.1 (by rw [cellsAt_same (hw'.block b (cellsAt_lt hc))]; exact hc))
    · cases hκ
  · rename_i rt p ex
    rw [ex] at hv
    obtain ⟨b, off, cs, c, hp, v1⟩ := hv
    split at hκ
    · rename_i t m y e2
      have := at_place hp e2
      subst this
      split at hκ
      · rename_i ht
        have tf := isB_load T ht
        obtain ⟨hl, hcs⟩ := hp.cells ok h
        have hc := hcs b off rfl
        have hrun : ∀ w', Below w.heap.size w w' → (execOp a.eval o).run g.P w' = .ok (.value (valOf t cs)) w' := fun w' hw' => by
          simp only [execOp, ho, v1]
          exact run_v (tf.1 (by rw [cellsAt_same (hw'.block b (cellsAt_lt hc))]; exact hc))
        have hVS : VS t (valOf t cs) cs := VS_cells hl tf.2.1 tf.2.2
        have own_case : m ≠ .dd → m ≠ .ro → putK hn o.dst (.ref rt p) st κ = some r → Rd g o a w κ r := fun _ _ hk =>
          rd_putK (i := 0) hn h hd hrun (x := .ref rt p) ⟨_, cs, _, hp, hVS⟩ (fun _ _ _ e => by cases e) hk
        cases m with
        | ro => exact rd_put hn h hd hrun ⟨cs, hVS, OW_ro.1 (place_OW ok h hp (by simp))⟩ hκ
        | dd => cases hκ
        | own m => exact own_case (by simp) (by simp) hκ
        | pr m n => exact own_case (by simp) (by simp) hκ
      · cases hκ
    · cases hκ
  · cases hκ
theorem run_nilCheck {P : Program} {ρ : Operand → Value} {o : Oper} {x : Operand} {ad : Addr} (ho : o.op = .nilCheck x) (hx : ρ x = .pointer (some ad)) (w : World) : (execOp ρ o).run P w = .ok (.value (.pointer (some ad))) w := by
  simp only [execOp, ho, hx]; rfl
theorem rd_nilCheck {o : Oper} {x : Operand} {hn : Hint} {κ π : ST S → Option α} {r : α} (ok : S.Ok) (h : Rel g own st a w) (hd : ∀ d, o.dst = some d → d < a.tmps.size)
    (ho : o.op = .nilCheck x) (hκ : opK π g.E hn o st κ = some r) : Rd g o a w κ r := by
  simp only [opK, ho] at hκ
  have hv := av_ok g.E h x 0 0
  split at hκ
  · rename_i n m y ex
    rw [ex] at hv
    have hm := av_ro g.E ex
    subst hm
    obtain ⟨cs, h1, h2⟩ := TR_ro.1 hv
    obtain ⟨z, hz, hκ⟩ := bindR_some hκ
    rcases Cx.R_ptr.1 h2 with ⟨_, hy⟩ | ⟨b, z', cs', rfl, hy, hZ, hc, hR, _⟩
    · exact absurd (hy.symm.trans hz) (by simp)
    · have : z' = z := by have := hy.symm.trans hz; simpa using this
      subst this
      have v1 : a.eval x = .pointer (some ⟨b, 0, none⟩) := (List.cons.inj h1).1.symm
      cases hdst : o.dst with
      | none =>
        rw [hdst] at hκ
        exact ⟨_, own, st, fun w' _ => run_nilCheck ho v1 w', by rw [hdst]; exact h, hκ⟩
      | some d =>
        rw [hdst] at hκ
        have hrel := h.put hn (hd d hdst) (x := .rp (S.body n) (S.out n z')) (v := .pointer (some ⟨b, 0, none⟩)) ⟨b, 0, cs', rfl, hZ, by rw [← ok.1 n]; exact hc, hR⟩
        exact ⟨_, own, _, fun w' _ => run_nilCheck ho v1 w', by rw [hdst]; exact hrel, hκ⟩
  · rename_i n m y ex
    rw [ex] at hv
    have hm := av_ro g.E ex
    subst hm
    obtain ⟨cs, h1, h2⟩ := TR_ro.1 hv
    obtain ⟨z, hz, hκ⟩ := bindR_some hκ
    rcases Cx.R_lptr.1 h2 with ⟨_, hy⟩ | ⟨b, z', cs', rfl, hy, hZ, hc, hR, _⟩
    · exact absurd (hy.symm.trans hz) (by simp)
    · have : z = (b, z') := (Option.some.inj (hy.symm.trans hz)).symm
      subst this
      have v1 : a.eval x = .pointer (some ⟨b, 0, none⟩) := (List.cons.inj h1).1.symm
      cases hdst : o.dst with
      | none =>
        rw [hdst] at hκ
        exact ⟨_, own, st, fun w' _ => run_nilCheck ho v1 w', by rw [hdst]; exact h, hκ⟩
      | some d =>
        rw [hdst] at hκ
        have hrel := h.put hn (hd d hdst) (x := .rp (S.body n) (S.out n z')) (v := .pointer (some ⟨b, 0, none⟩)) ⟨b, 0, cs', rfl, hZ, by rw [← ok.1 n]; exact hc, hR⟩
        exact ⟨_, own, _, fun w' _ => run_nilCheck ho v1 w', by rw [hdst]; exact hrel, hκ⟩
  · rename_i rt p ex
    rw [ex] at hv
    have hv' := hv
    obtain ⟨b, off, cs, c, hp, v1⟩ := hv
    exact rd_putK (i := 0) hn h hd (fun w' _ => by rw [v1]; exact run_nilCheck ho v1 w') hv' (fun _ _ _ e => by cases e) hκ
  · rename_i t y ex
    rw [ex] at hv
    have hv' := hv
    obtain ⟨b, off, cs, v1, hb, hc, hR⟩ := hv
    cases hdst : o.dst with
    | none =>
      rw [hdst] at hκ
      exact ⟨_, own, st, fun w' _ => run_nilCheck ho v1 w', by rw [hdst]; exact h, hκ⟩
    | some d =>
      rw [hdst] at hκ
      have hrel := h.put hn (hd d hdst) (x := .rp t y) (v := .pointer (some ⟨b, off, none⟩)) ⟨b, off, cs, rfl, hb, hc, hR⟩
      exact ⟨_, own, _, fun w' _ => run_nilCheck ho v1 w', by rw [hdst]; exact hrel, hκ⟩
  · cases hκ
theorem run_fieldAt {P : Program} {E : Env S} (T : TysOk P E) {e : Nat} {u : Ty} (tf : TyFact P E e (.agg u)) {f : Nat} {p : Path} (hp : fieldGo u f = some p) :
    ∃ off' tt, (∀ w b off, (Instr.fieldAt e (.pointer (some ⟨b, off, none⟩)) f).run P w = .ok (.pointer (some ⟨b, off + off', none⟩)) w) ∧ p.plain = true ∧ 0 < S.size tt ∧ (tt ≠ .unit ∧ ∀ a b, tt ≠ .pair a b) ∧
      (∀ w l cs, ∃ cs', S.nav w u l cs p = some (l.map (fun x => (x.1, x.2 + off')), cs') ∧ (cs.length = S.size u → cs' = (cs.drop off').take (S.size tt))) ∧
      (∀ m x, ∃ m' x', S.getP u m p x = some ⟨tt, m', x'⟩) ∧
      (∀ (w : World) (cs : List Value), cs.length = S.size u → (Instr.field e (.agg cs.toArray) f).run P w = .ok (valOf tt ((cs.drop off').take (S.size tt))) w) := by
  rcases tf.und with ⟨fs, hu, hf⟩ | ⟨n, v, e', rfl, _⟩
  case inr => cases hp
  obtain ⟨fd, tt, e1, e2, e3, e4, e5, e6, e7⟩ := field_nav fs.toList u 0 f p hf hp
  have tff := T _ _ e3
  have hfs : fs[f]? = some fd := by simpa using e1
  refine ⟨fd.offset, tt, fun w b off => ?_, e5, e4, und_ne tff, ?_, e7, fun w cs hl => ?_⟩
  · simp only [Instr.fieldAt, Sem.run_bind, run_underlying hu, Result.andThen_ok, hfs, Instr.sureAddr, pure_bind, fieldPlace, tff.size w]
    rw [if_neg (by omega), add_off]
    rfl
  · intro w l cs
    obtain ⟨cs', n1, n2⟩ := e6 w l cs
    exact ⟨cs', by simpa using n1, by simpa using n2⟩
  · simp only [Instr.field, Sem.run_bind, run_underlying hu, Result.andThen_ok, hfs, asAgg, pure_bind, part, und_shape tff w]
    obtain ⟨cs', n1, n2⟩ := e6 w none cs
    have hlen : ((cs.drop fd.offset).take (S.size tt)).length = S.size tt := by
      obtain ⟨m', x', hg⟩ := e7 .ro (S.zero u)
      have := nav_cells u p .ro (S.zero u) none cs _ cs' _ hl (fun b off he => by cases he) n1 hg
      rw [n2 hl] at this
      simpa using this.1
    cases ht : tt.isAgg
    · have hs1 := size_scalar (S := S) ht (und_ne tff).1 (und_ne tff).2
      rw [hs1] at hlen ⊢
      simp only [Bool.false_eq_true, if_false, valOf, ht]
      have hlt : fd.offset < cs.length := by
        rw [List.length_take, List.length_drop] at hlen; omega
      have : (cs.toArray)[fd.offset]? = some cs[fd.offset] := by simp [hlt]
      rw [this]
      have h2 : (cs.drop fd.offset).take 1 = [cs[fd.offset]] := by
        rw [List.drop_eq_getElem_cons hlt]; rfl
      rw [h2]; rfl
    · simp only [if_true, Sem.run_bind, tff.size w, Result.andThen_ok, valOf, ht]
      have : cs.toArray.extract fd.offset (fd.offset + S.size tt) = (List.take (S.size tt) (List.drop fd.offset cs)).toArray := by
        apply Array.ext'
        simp [List.extract_eq_take_drop]
      rw [this]; rfl
end
end Go.Proofs.Ytdnkjfmneppkoaa.Vm
namespace Go.Proofs.Ytdnkjfmneppkoaa.Vm
open Go Go.RowKit
set_option linter.unusedVariables false
section
variable {S : Cx} {α : Type} {g : Gl S} {own : Nat → Option Own} {st : ST S} {a : Act} {w : World}
theorem run_partAt {P : Program} {E : Env S} {t : Nat} {tt : Ty} (tff : TyFact P E t tt) (w : World) (cs : List Value) (off : Nat) (h : off + S.size tt ≤ cs.length) :
    (part t cs.toArray off).run P w = .ok (valOf tt ((cs.drop off).take (S.size tt))) w := by
  have hpos := tff.pos
  simp only [part, Sem.run_bind, und_shape tff w, Result.andThen_ok]
  cases ht : tt.isAgg
  · have hs1 := size_scalar (S := S) ht (und_ne tff).1 (und_ne tff).2
    rw [hs1] at h ⊢
    simp only [Bool.false_eq_true, if_false, valOf, ht]
    have hlt : off < cs.length := by omega
    have : (cs.toArray)[off]? = some cs[off] := by simp [hlt]
    rw [this]
    have h2 : (cs.drop off).take 1 = [cs[off]] := by
      rw [List.drop_eq_getElem_cons hlt]; rfl
    rw [h2]; rfl
  · simp only [if_true, Sem.run_bind, tff.size w, Result.andThen_ok, valOf, ht]
    have : cs.toArray.extract off (off + S.size tt) = (List.take (S.size tt) (List.drop off cs)).toArray := by
      apply Array.ext'
      simp [List.take_drop]
    rw [this]; rfl
theorem ba_beq (x y : List UInt8) : ((ByteArray.mk (Array.mk x)).toList == (ByteArray.mk (Array.mk y)).toList) = decide (x = y) := by
  rw [ByteArray.toList_eq, ByteArray.toList_eq]
  show (x == y) = decide (x = y)
  by_cases h : x = y <;> simp [h]
def EqIn (P : Program) (E : Env S) (ty : Ty) : Prop := ∀ (d tid : Nat) (x y : S.den ty) (cs ds : List Value) (w w0 : World) (Z : Nat → Prop), ty.eqable = true → E.tys.lookup tid = some ty → ty.tdep ≤ d →
  S.R w0 Z ty cs x → S.R w0 Z ty ds y → (Op.equalIn d tid (valOf ty cs) (valOf ty ds)).run P w = .ok (S.eqB ty x y) w
def EqFs (P : Program) (E : Env S) (u : Ty) : Prop := ∀ (d : Nat) (fs : List Field) (off : Nat) (as bs : List Value) (x y : S.den u) (w w0 : World) (Z : Nat → Prop), u.eqable = true → FieldsOk S E fs u off → (∀ f ∈ fs, f.name ≠ "_") → u.tdep ≤ d →
  off + S.size u ≤ as.length → off + S.size u ≤ bs.length → S.R w0 Z u ((as.drop off).take (S.size u)) x → S.R w0 Z u ((bs.drop off).take (S.size u)) y →
  (Op.eqFields d as.toArray bs.toArray fs).run P w = .ok (S.eqB u x y) w
theorem eqFs_one {P : Program} {E : Env S} (T : TysOk P E) {u : Ty} (hu : EqIn (S := S) P E u) (hp : ∀ a b, u ≠ .pair a b) : EqFs (S := S) P E u := by
  intro d fs off as bs x y w w0 Z he hf hn hd l1 l2 r1 r2
  match fs, hf with
  | [f], hf =>
    have hf : f.offset = off ∧ E.tys.lookup f.type = some u ∧ 0 < S.size u := by
      cases u with
      | pair a b => exact absurd rfl (hp a b)
      | _ => exact hf
    obtain ⟨e1, e2, e3⟩ := hf
    subst e1
    have tff := T _ _ e2
    simp only [Op.eqFields, if_pos (hn f (List.mem_cons_self ..)), Sem.run_bind, run_partAt tff w as f.offset l1, run_partAt tff w bs f.offset l2, Result.andThen_ok, hu d f.type x y _ _ w w0 Z he e2 hd r1 r2]
    cases S.eqB u x y <;> rfl
  | [], hf => cases u <;> exact (hf : False).elim
  | f :: f' :: fs, hf =>
    cases u with
    | pair a b => exact absurd rfl (hp a b)
    | _ => exact (hf : False).elim
theorem eqItems_int {P : Program} {E : Env S} (T : TysOk P E) {e k n : Nat} {kk : IntKind} (he : E.tys.lookup e = some (.int kk)) (x y : List Int) (cs ds : List Value) (w w0 : World) (Z : Nat → Prop) (d : Nat)
    (r1 : S.R w0 Z (.arr n (.int kk)) cs x) (r2 : S.R w0 Z (.arr n (.int kk)) ds y) : ∀ is : List Nat, (∀ i ∈ is, i < n) →
    (Op.eqItems (d + 1) e 1 cs.toArray ds.toArray is).run P w = .ok (is.all fun i => decide (x.getD i 0 = y.getD i 0)) w := by
  intro is
  obtain ⟨a1, a2, a3⟩ := Cx.R_arr.1 r1
  obtain ⟨b1, b2, b3⟩ := Cx.R_arr.1 r2
  have hs : S.size (.int kk) = 1 := rfl
  rw [hs] at a2 a3 b2 b3
  have tff := T _ _ he
  induction is with
  | nil => intro _; rfl
  | cons i is ih =>
    intro hi
    have h1 := hi i (List.mem_cons_self ..)
    have ra := Cx.R_int.1 (a3 i (x.getD i 0) (getD_nth (l := x) 0 (a1.symm ▸ h1)))
    have rb := Cx.R_int.1 (b3 i (y.getD i 0) (getD_nth (l := y) 0 (b1.symm ▸ h1)))
    have pa := run_partAt (S := S) tff w cs (i * 1) (by rw [hs, a2]; omega)
    have pb := run_partAt (S := S) tff w ds (i * 1) (by rw [hs, b2]; omega)
    rw [hs, ra] at pa
    rw [hs, rb] at pb
    have eq := run_equalIn_int (P := P) w d e kk kk (x.getD i 0) (y.getD i 0) tff.und
    have va : ∀ z : Int, valOf (.int kk) [Value.int kk z] = .int kk z := fun _ => rfl
    rw [va] at pa pb
    have eq' : (Op.equalIn (d + 1) e (.int kk (x.getD i 0)) (.int kk (y.getD i 0))).run P w = .ok (decide (x.getD i 0 = y.getD i 0)) w := by
      refine eq.trans ?_
      congr 1
    simp only [Op.eqItems, Sem.run_bind, pa, pb, Result.andThen_ok, eq']
    rw [List.all_cons]
    cases decide (x.getD i 0 = y.getD i 0) with
    | false => rfl
    | true => simpa using ih (fun j hj => hi j (List.mem_cons_of_mem _ hj))
theorem all_range {x y : List Int} {n : Nat} (h1 : x.length = n) (h2 : y.length = n) : ((List.range n).all fun i => decide (x.getD i 0 = y.getD i 0)) = decide (x = y) := by
  by_cases h : x = y
  · subst h; simp
  · rw [decide_eq_false h]
    rw [Bool.eq_false_iff]
    intro hall
    apply h
    rw [List.all_eq_true] at hall
    apply List.ext_getElem (by omega)
    intro i hi hj
    have := of_decide_eq_true (hall i (List.mem_range.2 (by omega)))
    simpa [hi, hj] using this
theorem eq_all {P : Program} {E : Env S} (ok : S.Ok) (T : TysOk P E) : ∀ ty : Ty, EqIn (S := S) P E ty ∧ EqFs (S := S) P E ty := by
  intro ty
  induction ty with
  | int k =>
    have h : EqIn (S := S) P E (.int k) := by
      intro d tid x y cs ds w w0 Z he ht hd r1 r2
      rw [Cx.R_int.1 r1, Cx.R_int.1 r2]
      obtain ⟨d', rfl⟩ : ∃ d', d = d' + 1 := ⟨d - 1, by have : (1 : Nat) ≤ d := hd; omega⟩
      have := run_equalIn_int (P := P) w d' tid k k x y (T _ _ ht).und
      refine this.trans ?_
      congr 1
    exact ⟨h, eqFs_one T h (by simp)⟩
  | bool =>
    have h : EqIn (S := S) P E .bool := by
      intro d tid x y cs ds w w0 Z he ht hd r1 r2
      rw [Cx.R_bool.1 r1, Cx.R_bool.1 r2]
      obtain ⟨d', rfl⟩ : ∃ d', d = d' + 1 := ⟨d - 1, by have : (1 : Nat) ≤ d := hd; omega⟩
      exact run_equalIn_bool w d' tid x y (T _ _ ht).und
    exact ⟨h, eqFs_one T h (by simp)⟩
  | str =>
    have h : EqIn (S := S) P E .str := by
      intro d tid x y cs ds w w0 Z he ht hd r1 r2
      rw [Cx.R_str.1 r1, Cx.R_str.1 r2]
      obtain ⟨d', rfl⟩ : ∃ d', d = d' + 1 := ⟨d - 1, by have : (1 : Nat) ≤ d := hd; omega⟩
      have := run_equalIn_string (P := P) w d' tid (ByteArray.mk (Array.mk x)) (ByteArray.mk (Array.mk y)) (T _ _ ht).und
      refine this.trans ?_
      exact congrArg (fun b => Result.ok b w) (ba_beq x y)
    exact ⟨h, eqFs_one T h (by simp)⟩
  | agg u ih =>
    have h : EqIn (S := S) P E (.agg u) := by
      intro d tid x y cs ds w w0 Z he ht hd r1 r2
      obtain ⟨d', rfl⟩ : ∃ d', d = d' + 1 := ⟨d - 1, by have : u.tdep + 1 ≤ d := hd; omega⟩
      have tf := T _ _ ht
      obtain ⟨q1, q2, q3, q4⟩ := tf.eqs rfl he
      rcases tf.und with ⟨fs, hu, hf⟩ | ⟨n, v, e, rfl, hu, hl, hpos⟩
      case inr =>
        cases v with
        | int kk =>
          obtain ⟨i, z, i1, i2, _⟩ := (T _ _ hl).info
          have hc1 : P.cellsOf e = 1 := by simp [Program.cellsOf, i1, i2, Nm.size]
          refine (run_equalIn_array w d' cs.toArray ds.toArray hu i1).trans ?_
          rw [hc1]
          obtain ⟨d2, rfl⟩ : ∃ d2, d' = d2 + 1 := ⟨d' - 1, by have : (Ty.arr n (.int kk)).tdep + 1 ≤ d' + 1 := hd; have : (Ty.arr n (.int kk)).tdep = 1 := rfl; omega⟩
          have s1 := Cx.R_agg.1 r1
          have s2 := Cx.R_agg.1 r2
          refine (eqItems_int (k := 0) T hl x y cs ds w w0 Z d2 s1 s2 (List.range n) (fun i hi => List.mem_range.1 hi)).trans ?_
          rw [all_range (Cx.R_arr.1 s1).1 (Cx.R_arr.1 s2).1]
          rfl
        | _ => cases he
      have hfo : P.fieldsOf tid = fs := by simp [Program.fieldsOf, hu]
      have s1 := Cx.R_agg.1 r1
      have s2 := Cx.R_agg.1 r2
      have l1 : cs.length = S.size u := s1.len ok
      have l2 : ds.length = S.size u := s2.len ok
      refine (run_equalIn_struct w d' tid cs.toArray ds.toArray (by rw [hfo]; exact hu) q2).trans ?_
      rw [hfo]
      exact ih.2 d' fs.toList 0 cs ds x y w w0 Z he hf (by rw [hfo] at q4; exact q4) (by have : u.tdep + 1 ≤ d' + 1 := hd; omega) (by omega) (by omega) (by rw [List.drop_zero, ← l1, List.take_length]; exact s1) (by rw [List.drop_zero, ← l2, List.take_length]; exact s2)
    exact ⟨h, eqFs_one T h (by simp)⟩
  | pair a b iha ihb =>
    constructor
    · intro d tid x y cs ds w w0 Z he ht hd r1 r2
      exact ((T _ _ ht).und : False).elim
    · intro d fs off as bs x y w w0 Z he hf hn hd l1 l2 r1 r2
      match fs, hf with
      | f :: f' :: fs, hf =>
        obtain ⟨e1, e2, e3, e4⟩ := hf
        subst e1
        have tff := T _ _ e2
        simp only [Ty.eqable, Bool.and_eq_true] at he
        have hd' : max a.tdep b.tdep ≤ d := hd
        have hsz : S.size (.pair a b) = S.size a + S.size b := rfl
        rw [hsz] at l1 l2 r1 r2
        obtain ⟨c1, c2, m1, m2, m3, m4⟩ := Cx.R_pair.1 r1
        obtain ⟨k1, k2, n1, n2, n3, n4⟩ := Cx.R_pair.1 r2
        have cut : ∀ (l c1 c2 : List Value) (o p q : Nat), (l.drop o).take (p + q) = c1 ++ c2 → c1.length = p → (l.drop o).take p = c1 ∧ (l.drop (o + p)).take q = c2 := by
          intro l c1 c2 o p q h hp
          constructor
          · have := congrArg (List.take p) h
            rw [List.take_take, Nat.min_eq_left (by omega), ← hp, List.take_left'  rfl] at this
            rw [← hp]; exact this
          · have := congrArg (List.drop p) h
            rw [List.drop_take, List.drop_drop, Nat.add_sub_cancel_left, ← hp, List.drop_left' rfl] at this
            rw [← hp]; exact this
        obtain ⟨u1, u2⟩ := cut as c1 c2 _ _ _ m1 m2
        obtain ⟨u3, u4⟩ := cut bs k1 k2 _ _ _ n1 n2
        have hrest := ihb.2 d (f' :: fs) (f.offset + S.size a) as bs x.2 y.2 w w0 Z he.2 e4 (fun g hg => hn g (List.mem_cons_of_mem _ hg)) (by omega) (by omega) (by omega) (by rw [u2]; exact m4) (by rw [u4]; exact n4)
        have hnm := hn f (List.mem_cons_self ..)
        clear hn
        generalize f' :: fs = rest at hrest ⊢
        simp only [Op.eqFields.eq_2, if_pos hnm, Sem.run_bind, run_partAt tff w as f.offset (by omega), run_partAt tff w bs f.offset (by omega), Result.andThen_ok, u1, u3, iha.1 d f.type x.1 y.1 _ _ w w0 Z he.1 e2 (by omega) m3 n3]
        have e : S.eqB (.pair a b) x y = (S.eqB a x.1 y.1 && S.eqB b x.2 y.2) := rfl
        rw [e]
        cases S.eqB a x.1 y.1 with
        | false => rfl
        | true => simpa using hrest
      | [f], hf => exact (hf : False).elim
      | [], hf => exact (hf : False).elim
  | slice e t ih =>
    constructor
    · intro d tid x y cs ds w w0 Z he; cases he
    · intro d fs off as bs x y w w0 Z he; cases he
  | lptr n =>
    constructor
    · intro d tid x y cs ds w w0 Z he; cases he
    · intro d fs off as bs x y w w0 Z he; cases he
  | ptr n =>
    constructor
    · intro d tid x y cs ds w w0 Z he; cases he
    · intro d fs off as bs x y w w0 Z he; cases he
  | named n =>
    constructor
    · intro d tid x y cs ds w w0 Z he; cases he
    · intro d fs off as bs x y w w0 Z he; cases he
  | unit =>
    constructor
    · intro d tid x y cs ds w w0 Z he; cases he
    · intro d fs off as bs x y w w0 Z he; cases he
  | arr n t ih =>
    constructor
    · intro d tid x y cs ds w w0 Z he ht; exact ((T _ _ ht).und : False).elim
    · exact (eqFs_one T (fun d tid x y cs ds w w0 Z he ht => ((T _ _ ht).und : False).elim) (by simp))
  | box t ih =>
    constructor
    · intro d tid x y cs ds w w0 Z he; cases he
    · intro d fs off as bs x y w w0 Z he; cases he
  | map k v ihk ihv =>
    constructor
    · intro d tid x y cs ds w w0 Z he; cases he
    · intro d fs off as bs x y w w0 Z he; cases he
  | clo f t ih =>
    constructor
    · intro d tid x y cs ds w w0 Z he; cases he
    · intro d fs off as bs x y w w0 Z he; cases he
theorem run_eqIn {P : Program} {E : Env S} (ok : S.Ok) (T : TysOk P E) (ty : Ty) : EqIn (S := S) P E ty := (eq_all ok T ty).1
theorem isNilC_eval {x : Operand} {a : Act} (h : isNilC x = true) : a.eval x = .slice none 0 0 := by
  unfold isNilC at h
  split at h
  · split at h
    · rename_i ad n c
      simp only [Bool.and_eq_true, beq_iff_eq, Option.isNone_iff_eq_none] at h
      obtain ⟨⟨rfl, rfl⟩, rfl⟩ := h
      rfl
    · cases h
  · cases h
theorem guard_slice {P : Program} (op : BinOp) (t : TypeId) (x y : Operand) (ad : Option Addr) (n c : Nat) (u : Value) (w : World) : (eqGuard op t x y (.slice ad n c) u).run P w = .ok () w := by cases op <;> rfl
theorem run_equal_nil {P : Program} (w : World) (t e : TypeId) (a : Option Addr) (l c : Nat) (h : P.underlying t = some (.slice e)) : (Op.equal t (.slice a l c) (.slice none 0 0)).run P w = .ok a.isNone w :=
  Go.Lib.run_equalIn_slice_nil w 9999 t e a l c 0 0 h
theorem run_nilptrD {P : Program} {xt e : Nat} (hu : P.underlying xt = some (.pointer e)) (d : Nat) (a : Option Addr) (bb : Option Addr) (w : World) (h : bb = none := by rfl) : (Op.equalIn (d + 1) xt (.pointer bb) (.pointer a)).run P w = .ok a.isNone w := by
  subst h
  simp [Op.equalIn, run_underlying hu]
theorem run_equalIn_pointer_nil' {P : Program} {xt e : Nat} (hu : P.underlying xt = some (.pointer e)) (d : Nat) (a : Option Addr) (w : World) : (Op.equalIn (d + 1) xt (.pointer a) (.pointer none)).run P w = .ok a.isNone w := by
  cases a <;> simp [Op.equalIn, run_underlying hu]
theorem run_nilptr0 {P : Program} {xt e : Nat} (hu : P.underlying xt = some (.pointer e)) (w : World) : (Op.equal xt (.pointer none) (.pointer none)).run P w = .ok true w := by
  exact run_nilptrD hu 9999 _ _ w
theorem run_nilptr1 {P : Program} {xt e : Nat} (hu : P.underlying xt = some (.pointer e)) (a : Addr) (w : World) : (Op.equal xt (.pointer none) (.pointer (some a))).run P w = .ok false w := by
  exact run_nilptrD hu 9999 _ _ w
theorem run_nilptr2 {P : Program} {xt e : Nat} (hu : P.underlying xt = some (.pointer e)) (a : Addr) (w : World) : (Op.equal xt (.pointer (some a)) (.pointer none)).run P w = .ok false w := by
  exact run_equalIn_pointer_nil' hu 9999 (some a) w
theorem run_ptrptrD {P : Program} {xt e : Nat} {i : TypeInfo} (hu : P.underlying xt = some (.pointer e)) (hi : P.info? e = some i) (hz : i.size ≠ 0) (d : Nat) (w : World) {b b' : Nat} {c c' : Array Value} {t t' : TypeId}
    (hb : w.heap[b]? = some (.cells c t (0, 0))) (hb' : w.heap[b']? = some (.cells c' t' (0, 0))) : (Op.equalIn (d + 1) xt (.pointer (some ⟨b, 0, none⟩)) (.pointer (some ⟨b', 0, none⟩))).run P w = .ok (decide (b = b')) w := by
  have hs := run_cellsOf hi w
  simp only [Op.equalIn, Sem.run_bind, run_underlying hu, Result.andThen_ok, hs]
  rw [if_pos hz]
  by_cases h : b = b'
  · subst h
    rw [run_sameAddr_same]; simp
  · rw [run_sameAddr_other (ca := c) (cb := c') (ta := t) (tb := t') w (by simp) hb hb']
    simp [h]
theorem run_ptrptr {P : Program} {xt e : Nat} {i : TypeInfo} (hu : P.underlying xt = some (.pointer e)) (hi : P.info? e = some i) (hz : i.size ≠ 0) (w : World) {b b' : Nat} {c c' : Array Value} {t t' : TypeId}
    (hb : w.heap[b]? = some (.cells c t (0, 0))) (hb' : w.heap[b']? = some (.cells c' t' (0, 0))) : (Op.equal xt (.pointer (some ⟨b, 0, none⟩)) (.pointer (some ⟨b', 0, none⟩))).run P w = .ok (decide (b = b')) w := by
  exact run_ptrptrD hu hi hz 9999 w hb hb'
theorem rd_bin {o : Oper} {op : BinOp} {xt yt : TypeId} {x y : Operand} {hn : Hint} {κ π : ST S → Option α} {r : α} (ok : S.Ok) (T : TysOk g.P g.E) (h : Rel g own st a w) (hd : ∀ d, o.dst = some d → d < a.tmps.size)
    (ho : o.op = .binOp op xt x y yt) (hκ : opK π g.E hn o st κ = some r) : Rd g o a w κ r := by
  simp only [opK, ho] at hκ
  have fin : ∀ z c, (∀ w', (eqGuard op xt x y (a.eval x) (a.eval y)).run g.P w' = .ok () w') → (∀ w', (binOp op xt (a.eval x) (a.eval y)).run g.P w' = .ok z w' ∧ BinV (S := S) w' c z) →
      κ (match o.dst with | some d => st.put hn d (.v c.t c.m c.x) | none => st) = some r → Rd g o a w κ r := by
    intro z c h1 h2 h3
    obtain ⟨hm, hv⟩ := BinV.ro (g := g) (own := own) (h2 w).2
    rw [hm] at h3
    refine rd_put hn h hd (fun w' _ => ?_) hv h3
    simp only [execOp, ho]
    refine run_v ?_
    simp only [Sem.run_bind, h1 w', Result.andThen_ok, (h2 w').1]
  split at hκ
  · rename_i hnil
    have vy : a.eval y = .slice none 0 0 := isNilC_eval hnil
    unfold binNil at hκ
    split at hκ
    · rename_i e t m l e1
      split at hκ
      · rename_i ht
        obtain ⟨cs, a1, b1⟩ := val_ok ok g.E h e1
        obtain ⟨ad, c, rfl, _, hel⟩ := Cx.R_slice.1 b1
        have v1 : a.eval x = .slice ad (List.length l) c := (List.cons.inj a1).1.symm
        have hu : g.P.underlying xt = some (.slice e) := (T _ _ (Env.is_lookup ht)).und.1
        have key : ∀ κ' : Bool → Option α, nilK (List.isEmpty l) κ' = some r → κ' ad.isNone = some r := fun κ' hk => by
          obtain ⟨k1, k2⟩ := nilK_some hk
          cases had : ad with
          | some _ => exact k1
          | none =>
            match l, hel, k2 with
            | [], _, k2 => exact k2 rfl
            | y :: l, hel, _ =>
              obtain ⟨_, _, _, e', _⟩ := hel 0 y rfl
              rw [had] at e'; cases e'
        split at hκ
        · refine fin (.bool ad.isNone) ⟨.bool, .ro, ad.isNone⟩ (fun w' => by rw [v1]; exact guard_slice _ _ _ _ _ _ _ _ _) (fun w' => ?_) (key _ hκ)
          rw [v1, vy]
          refine ⟨?_, binV_bool⟩
          simp only [binOp, Sem.run_bind, run_equal_nil w' xt e ad _ _ hu, Result.andThen_ok]; rfl
        · refine fin (.bool (!ad.isNone)) ⟨.bool, .ro, !ad.isNone⟩ (fun w' => by rw [v1]; exact guard_slice _ _ _ _ _ _ _ _ _) (fun w' => ?_) (key _ hκ)
          rw [v1, vy]
          refine ⟨?_, binV_bool⟩
          simp only [binOp, Sem.run_bind, run_equal_nil w' xt e ad _ _ hu, Result.andThen_ok]; rfl
        · cases hκ
      · cases hκ
    · cases hκ
  unfold bin2 at hκ
  split at hκ
  · rename_i n m1 p1 n' m2 p2 e0 e1 e2
    split at hκ
    · rename_i ht
      split at hκ
      · rename_i y' hy
        obtain ⟨ee, rfl⟩ := cast_some hy
        cases ee
        obtain ⟨e, i, hu0, hi, hz⟩ := (T _ _ (Env.is_lookup ht)).und
        obtain ⟨cs1, a1, b1⟩ := val_ok ok g.E h e1
        obtain ⟨cs2, a2, b2⟩ := val_ok ok g.E h e2
        have hx : ∀ {z : Operand} {cs : List Value} {p : Option (S.N n)}, VS (.ptr n) (a.eval z) cs → S.R w (g.A w) (.ptr n) cs p → (a.eval z = .pointer none ∧ p = none) ∨ ∃ b q, a.eval z = .pointer (some ⟨b, 0, none⟩) ∧ p = some q ∧ b < w.heap.size ∧ Plain0 w b := fun hVS hR => by
          rcases Cx.R_ptr.1 hR with ⟨rfl, rfl⟩ | ⟨b, y, cs', rfl, rfl, hA, _, _, hp⟩
          · exact .inl ⟨(List.cons.inj hVS).1.symm, rfl⟩
          · exact .inr ⟨b, y, (List.cons.inj hVS).1.symm, rfl, hA.2, hp⟩
        have hsame : a.eval x = a.eval y → p1 = p2 := fun he => by
          have a1 : cs1 = [a.eval x] := a1
          have a2 : cs2 = [a.eval y] := a2
          subst a1
          subst a2
          rw [he] at b1
          exact b1.fun_ ok b2
        -- what the machine answers
        have key : ∃ bb : Bool, (∀ w', Below w.heap.size w w' → (Op.equal xt (a.eval x) (a.eval y)).run g.P w' = .ok bb w') ∧ ∀ (κ' : Bool → Option α), ptrR (β := S.N n) p1 p2 (κ' true) (κ' false) = some r → κ' bb = some r := by
          rcases hx a1 b1 with ⟨v1, q1⟩ | ⟨b, q, v1, q1, hb, c0, t0, hf⟩ <;> rcases hx a2 b2 with ⟨v2, q2⟩ | ⟨b', q', v2, q2, hb', c0', t0', hf'⟩
          · refine ⟨true, fun w' _ => by rw [v1, v2]; exact run_nilptr0 hu0 w', fun κ' hk => ?_⟩
            rw [show p1 = _ from q1, show p2 = _ from q2, ptrR_nn] at hk; exact hk
          · refine ⟨false, fun w' _ => by rw [v1, v2]; exact run_nilptr1 hu0 _ w', fun κ' hk => ?_⟩
            rw [show p1 = _ from q1, show p2 = _ from q2, ptrR_ns] at hk; exact hk
          · refine ⟨false, fun w' _ => by rw [v1, v2]; exact run_nilptr2 hu0 _ w', fun κ' hk => ?_⟩
            rw [show p1 = _ from q1, show p2 = _ from q2, ptrR_sn] at hk; exact hk
          · refine ⟨decide (b = b'), fun w' hw' => ?_, fun κ' hk => ?_⟩
            · rw [v1, v2]
              exact run_ptrptr hu0 hi hz w' ((hw'.block b hb).trans hf) ((hw'.block b' hb').trans hf')
            · by_cases hbb : b = b'
              · have hpp := hsame (by rw [v1, v2, hbb])
                rw [show p1 = _ from q1, show p2 = _ from q2] at hpp
                cases hpp
                rw [show p1 = _ from q1, show p2 = _ from q2, ptrR_ss] at hk
                rw [decide_eq_true hbb]
                exact (meetK_some hk).1
              · rw [decide_eq_false hbb]
                by_cases hq : q = q'
                · subst hq
                  rw [show p1 = _ from q1, show p2 = _ from q2, ptrR_ss] at hk
                  exact (meetK_some hk).2
                · rw [show p1 = _ from q1, show p2 = _ from q2, ptrR_ne _ _ _ _ hq] at hk; exact hk
        obtain ⟨bb, hrun, hk⟩ := key
        have fin2 : ∀ z c, (∀ w', (eqGuard op xt x y (a.eval x) (a.eval y)).run g.P w' = .ok () w') → (∀ w', Below w.heap.size w w' → (binOp op xt (a.eval x) (a.eval y)).run g.P w' = .ok z w' ∧ BinV (S := S) w' c z) →
            κ (match o.dst with | some d => st.put hn d (.v c.t c.m c.x) | none => st) = some r → Rd g o a w κ r := by
          intro z c h1 h2 h3
          obtain ⟨hm, hv⟩ := BinV.ro (g := g) (own := own) (h2 w (Below.refl _ _)).2
          rw [hm] at h3
          refine rd_put hn h hd (fun w' hw' => ?_) hv h3
          simp only [execOp, ho]
          refine run_v ?_
          simp only [Sem.run_bind, h1 w', Result.andThen_ok, (h2 w' hw').1]
        have hvv : ∀ {z : Operand} {cs : List Value} {p : Option (S.N n)}, VS (.ptr n) (a.eval z) cs → S.R w (g.A w) (.ptr n) cs p → ∃ q, a.eval z = .pointer q := fun h1 h2 => by
          rcases hx h1 h2 with ⟨v1, _⟩ | ⟨b, q, v1, _⟩ <;> exact ⟨_, v1⟩
        obtain ⟨qx, hvx⟩ := hvv a1 b1
        obtain ⟨qy, hvy⟩ := hvv a2 b2
        have hg : ∀ w', (eqGuard op xt x y (a.eval x) (a.eval y)).run g.P w' = .ok () w' := fun w' => by
          rcases hx a1 b1 with ⟨v1, _⟩ | ⟨b, q, v1, _⟩ <;> rw [v1] <;> exact guard_ptr _ _ _ _ _ _ _
        split at hκ
        · exact fin2 (.bool bb) ⟨.bool, .ro, bb⟩ hg (fun w' hw' => ⟨by have hh := hrun w' hw'; rw [hvx, hvy] at hh ⊢; simp only [binOp, Sem.run_bind, hh, Result.andThen_ok]; rfl, binV_bool⟩) (hk (fun b => κ (match o.dst with | some d => st.put hn d (.v .bool .ro b) | none => st)) hκ)
        · exact fin2 (.bool (!bb)) ⟨.bool, .ro, !bb⟩ hg (fun w' hw' => ⟨by have hh := hrun w' hw'; rw [hvx, hvy] at hh ⊢; simp only [binOp, Sem.run_bind, hh, Result.andThen_ok]; rfl, binV_bool⟩) (hk (fun b => κ (match o.dst with | some d => st.put hn d (.v .bool .ro (notB b)) | none => st)) hκ)
        · cases hκ
      · cases hκ
    · cases hκ
  · rename_i n m1 p1 n' m2 p2 e0 e1 e2
    split at hκ
    · rename_i ht
      split at hκ
      · rename_i y' hy
        obtain ⟨ee, rfl⟩ := cast_some hy
        cases ee
        obtain ⟨e, i, hu0, hi, hz⟩ := (T _ _ (Env.is_lookup ht)).und
        obtain ⟨cs1, a1, b1⟩ := val_ok ok g.E h e1
        obtain ⟨cs2, a2, b2⟩ := val_ok ok g.E h e2
        have hx : ∀ {z : Operand} {cs : List Value} {p : Option (Nat × S.N n)}, VS (.lptr n) (a.eval z) cs → S.R w (g.A w) (.lptr n) cs p → (a.eval z = .pointer none ∧ p = none) ∨ ∃ b q, a.eval z = .pointer (some ⟨b, 0, none⟩) ∧ p = some (b, q) ∧ b < w.heap.size ∧ Plain0 w b := fun hVS hR => by
          rcases Cx.R_lptr.1 hR with ⟨rfl, rfl⟩ | ⟨b, y, cs', rfl, rfl, hA, _, _, hp⟩
          · exact .inl ⟨(List.cons.inj hVS).1.symm, rfl⟩
          · exact .inr ⟨b, y, (List.cons.inj hVS).1.symm, rfl, hA.2, hp⟩
        have key : ∀ w', Below w.heap.size w w' → (Op.equal xt (a.eval x) (a.eval y)).run g.P w' = .ok (lblE (β := S.N n) p1 p2) w' := by
          rcases hx a1 b1 with ⟨v1, q1⟩ | ⟨b, q, v1, q1, hb, c0, t0, hf⟩ <;> rcases hx a2 b2 with ⟨v2, q2⟩ | ⟨b', q', v2, q2, hb', c0', t0', hf'⟩
          · intro w' _; rw [v1, v2, show p1 = _ from q1, show p2 = _ from q2]; exact run_nilptr0 hu0 w'
          · intro w' _; rw [v1, v2, show p1 = _ from q1, show p2 = _ from q2]; exact run_nilptr1 hu0 _ w'
          · intro w' _; rw [v1, v2, show p1 = _ from q1, show p2 = _ from q2]; exact run_nilptr2 hu0 _ w'
          · intro w' hw'
            rw [v1, v2, show p1 = _ from q1, show p2 = _ from q2, run_ptrptr hu0 hi hz w' ((hw'.block b hb).trans hf) ((hw'.block b' hb').trans hf')]
            have : lblE (some (b, q)) (some (b', q')) = decide (b = b') := by
              show Nat.beq b b' = decide (b = b')
              by_cases e : b = b'
              · subst e; simp
              · rw [decide_eq_false e]; cases e' : Nat.beq b b' with
                | false => rfl
                | true => exact absurd (Nat.eq_of_beq_eq_true e') e
            rw [this]
        have fin2 : ∀ z c, (∀ w', (eqGuard op xt x y (a.eval x) (a.eval y)).run g.P w' = .ok () w') → (∀ w', Below w.heap.size w w' → (binOp op xt (a.eval x) (a.eval y)).run g.P w' = .ok z w' ∧ BinV (S := S) w' c z) →
            κ (match o.dst with | some d => st.put hn d (.v c.t c.m c.x) | none => st) = some r → Rd g o a w κ r := by
          intro z c h1 h2 h3
          obtain ⟨hm, hv⟩ := BinV.ro (g := g) (own := own) (h2 w (Below.refl _ _)).2
          rw [hm] at h3
          refine rd_put hn h hd (fun w' hw' => ?_) hv h3
          simp only [execOp, ho]
          refine run_v ?_
          simp only [Sem.run_bind, h1 w', Result.andThen_ok, (h2 w' hw').1]
        have hvv : ∀ {z : Operand} {cs : List Value} {p : Option (Nat × S.N n)}, VS (.lptr n) (a.eval z) cs → S.R w (g.A w) (.lptr n) cs p → ∃ q, a.eval z = .pointer q := fun h1 h2 => by
          rcases hx h1 h2 with ⟨v1, _⟩ | ⟨b, q, v1, _⟩ <;> exact ⟨_, v1⟩
        obtain ⟨qx, hvx⟩ := hvv a1 b1
        obtain ⟨qy, hvy⟩ := hvv a2 b2
        have hg : ∀ w', (eqGuard op xt x y (a.eval x) (a.eval y)).run g.P w' = .ok () w' := fun w' => by
          rcases hx a1 b1 with ⟨v1, _⟩ | ⟨b, q, v1, _⟩ <;> rw [v1] <;> exact guard_ptr _ _ _ _ _ _ _
        unfold binA at hκ
        split at hκ
        · exact fin2 (.bool (lblE (β := S.N n) p1 p2)) ⟨.bool, .ro, lblE (β := S.N n) p1 p2⟩ hg (fun w' hw' => ⟨by have hh := key w' hw'; rw [hvx, hvy] at hh ⊢; simp only [binOp, Sem.run_bind, hh, Result.andThen_ok]; rfl, binV_bool⟩) hκ
        · exact fin2 (.bool (!lblE (β := S.N n) p1 p2)) ⟨.bool, .ro, !lblE (β := S.N n) p1 p2⟩ hg (fun w' hw' => ⟨by have hh := key w' hw'; rw [hvx, hvy] at hh ⊢; simp only [binOp, Sem.run_bind, hh, Result.andThen_ok]; rfl, binV_bool⟩) hκ
        · cases hκ
      · cases hκ
    · cases hκ
  unfold bin at hκ
  split at hκ
  · rename_i k m1 n1 k' m2 n2 e1 e2
    have v1 : a.eval x = .int k n1 := int_ok ok g.E h (show asInt (st.val g.E x xt) = some (k, n1) by rw [e1]; rfl)
    have v2 : a.eval y = .int k' n2 := int_ok ok g.E h (show asInt (st.val g.E y yt) = some (k', n2) by rw [e2]; rfl)
    split at hκ
    · obtain ⟨z, c, h1, h2⟩ := run_shift (P := g.P) (k' := k') (xt := xt) hκ
      exact fin z c (fun w' => by rw [v1]; exact guard_int _ _ _ _ _ _ _ _) (fun w' => by rw [v1, v2]; exact h1 w') h2
    · split at hκ
      · rename_i hk _
        subst hk
        obtain ⟨z, c, h1, h2⟩ := run_int (P := g.P) (xt := xt) hκ
        exact fin z c (fun w' => by rw [v1]; exact guard_int _ _ _ _ _ _ _ _) (fun w' => by rw [v1, v2]; exact h1 w') h2
      · cases hκ
  · rename_i m1 n1 m2 n2 e1 e2
    have v1 : a.eval x = .bool n1 := bool_ok ok g.E h (show asBool (st.val g.E x xt) = some n1 by rw [e1]; rfl)
    have v2 : a.eval y = .bool n2 := bool_ok ok g.E h (show asBool (st.val g.E y yt) = some n2 by rw [e2]; rfl)
    split at hκ
    · rename_i ht
      obtain ⟨z, c, h1, h2⟩ := run_bool (P := g.P) T ht hκ
      exact fin z c (fun w' => by rw [v1]; exact guard_bool _ _ _ _ _ _ _) (fun w' => by rw [v1, v2]; exact h1 w') h2
    · cases hκ
  · rename_i m1 n1 m2 n2 e1 e2
    have v1 := str_ok ok g.E h e1
    have v2 := str_ok ok g.E h e2
    obtain ⟨z, c, h1, h2⟩ := run_str (P := g.P) (xt := xt) hκ
    exact fin z c (fun w' => by rw [v1]; exact guard_str _ _ _ _ _ _ _) (fun w' => by rw [v1, v2]; exact h1 w') h2
  · rename_i n m1 p1 n' m2 p2 e1 e2
    split at hκ
    · rename_i ht
      obtain ⟨e, i, hu0, _, _⟩ := (T _ _ (Env.is_lookup ht)).und
      have hu : g.P.underlying xt = some (.pointer (g.P.pointee xt)) := by rw [hu0]; simp [Program.pointee, hu0]
      obtain ⟨cs1, a1, b1⟩ := val_ok ok g.E h e1
      obtain ⟨cs2, a2, b2⟩ := val_ok ok g.E h e2
      have hx : ∃ q, a.eval x = .pointer q ∧ q.isNone = Option.isNone (α := S.N n) p1 := by
        rcases Cx.R_ptr.1 b1 with ⟨rfl, rfl⟩ | ⟨b, y, cs', rfl, rfl, _⟩
        · exact ⟨none, (List.cons.inj a1).1.symm, rfl⟩
        · exact ⟨some ⟨b, 0, none⟩, (List.cons.inj a1).1.symm, rfl⟩
      obtain ⟨q, v1, hq⟩ := hx
      have nilc : ∀ p : Option (S.N n'), p2 = p → p = none → a.eval y = .pointer none := by
        rintro p rfl hp
        rcases Cx.R_ptr.1 b2 with ⟨rfl, _⟩ | ⟨b, y, cs', _, h', _⟩
        · exact (List.cons.inj a2).1.symm
        · exact absurd (h'.symm.trans hp) (by simp)
      have key : ∀ (q : Option (S.N n)) (p : Option (S.N n')) (κ' : MV S.toNm → Option α), binP op q p κ' = some r →
          p = none ∧ ((op = .eql ∧ κ' ⟨.bool, .ro, q.isNone⟩ = some r) ∨ (op = .neq ∧ κ' ⟨.bool, .ro, !q.isNone⟩ = some r)) := by
        intro q p κ' hk
        cases p with
        | some _ => cases op <;> cases hk
        | none => cases op <;> first | exact ⟨rfl, .inl ⟨rfl, hk⟩⟩ | exact ⟨rfl, .inr ⟨rfl, hk⟩⟩ | cases hk
      obtain ⟨hp, ⟨rfl, hk⟩ | ⟨rfl, hk⟩⟩ := key _ _ _ hκ
      · exact fin (.bool q.isNone) ⟨.bool, .ro, q.isNone⟩ (fun w' => by rw [v1]; exact guard_ptr _ _ _ _ _ _ _) (fun w' => by
          rw [v1, nilc _ rfl hp]
          refine ⟨?_, binV_bool⟩
          simp only [binOp, Sem.run_bind, run_equal_pointer_nil w' xt q hu, Result.andThen_ok]; rfl) (by rw [hq]; exact hk)
      · exact fin (.bool (!q.isNone)) ⟨.bool, .ro, !q.isNone⟩ (fun w' => by rw [v1]; exact guard_ptr _ _ _ _ _ _ _) (fun w' => by
          rw [v1, nilc _ rfl hp]
          refine ⟨?_, binV_bool⟩
          simp only [binOp, Sem.run_bind, run_equal_pointer_nil w' xt q hu, Result.andThen_ok]; rfl) (by rw [hq]; exact hk)
    · cases hκ
  · rename_i n m1 p1 n' m2 p2 e1 e2
    split at hκ
    · rename_i ht
      obtain ⟨e, i, hu0, _, _⟩ := (T _ _ (Env.is_lookup ht)).und
      have hu : g.P.underlying xt = some (.pointer (g.P.pointee xt)) := by rw [hu0]; simp [Program.pointee, hu0]
      obtain ⟨cs1, a1, b1⟩ := val_ok ok g.E h e1
      obtain ⟨cs2, a2, b2⟩ := val_ok ok g.E h e2
      have hx : ∃ q, a.eval x = .pointer q ∧ q.isNone = Option.isNone (α := Nat × S.N n) p1 := by
        rcases Cx.R_lptr.1 b1 with ⟨rfl, rfl⟩ | ⟨b, y, cs', rfl, rfl, _⟩
        · exact ⟨none, (List.cons.inj a1).1.symm, rfl⟩
        · exact ⟨some ⟨b, 0, none⟩, (List.cons.inj a1).1.symm, rfl⟩
      obtain ⟨q, v1, hq⟩ := hx
      have nilc : ∀ p : Option (Nat × S.N n'), p2 = p → p = none → a.eval y = .pointer none := by
        rintro p rfl hp
        rcases Cx.R_lptr.1 b2 with ⟨rfl, _⟩ | ⟨b, y, cs', _, h', _⟩
        · exact (List.cons.inj a2).1.symm
        · exact absurd (h'.symm.trans hp) (by simp)
      have key : ∀ (q : Option (Nat × S.N n)) (p : Option (Nat × S.N n')) (κ' : MV S.toNm → Option α), binP op q p κ' = some r →
          p = none ∧ ((op = .eql ∧ κ' ⟨.bool, .ro, q.isNone⟩ = some r) ∨ (op = .neq ∧ κ' ⟨.bool, .ro, !q.isNone⟩ = some r)) := by
        intro q p κ' hk
        cases p with
        | some _ => cases op <;> cases hk
        | none => cases op <;> first | exact ⟨rfl, .inl ⟨rfl, hk⟩⟩ | exact ⟨rfl, .inr ⟨rfl, hk⟩⟩ | cases hk
      obtain ⟨hp, ⟨rfl, hk⟩ | ⟨rfl, hk⟩⟩ := key _ _ _ hκ
      · exact fin (.bool q.isNone) ⟨.bool, .ro, q.isNone⟩ (fun w' => by rw [v1]; exact guard_ptr _ _ _ _ _ _ _) (fun w' => by
          rw [v1, nilc _ rfl hp]
          refine ⟨?_, binV_bool⟩
          simp only [binOp, Sem.run_bind, run_equal_pointer_nil w' xt q hu, Result.andThen_ok]; rfl) (by rw [hq]; exact hk)
      · exact fin (.bool (!q.isNone)) ⟨.bool, .ro, !q.isNone⟩ (fun w' => by rw [v1]; exact guard_ptr _ _ _ _ _ _ _) (fun w' => by
          rw [v1, nilc _ rfl hp]
          refine ⟨?_, binV_bool⟩
          simp only [binOp, Sem.run_bind, run_equal_pointer_nil w' xt q hu, Result.andThen_ok]; rfl) (by rw [hq]; exact hk)
    · cases hκ
  · rename_i t m1 p1 t' m2 p2 e1 e2
    split at hκ
    · rename_i ht
      rw [Bool.and_eq_true] at ht
      split at hκ
      · rename_i z hz
        obtain ⟨cs1, a1, b1⟩ := val_ok ok g.E h e1
        obtain ⟨cs2, a2, b2⟩ := val_ok ok g.E h e2
        obtain ⟨ee, hz⟩ := cast_some hz
        cases ee
        subst hz
        have tf := T _ _ (Env.is_lookup ht.2)
        have v1 : a.eval x = .agg cs1.toArray := a1
        have v2 : a.eval y = .agg cs2.toArray := a2
        obtain ⟨q1, q2, q3, q4⟩ := tf.eqs rfl ht.1
        have he : ∀ w', (Op.equalIn 10000 xt (.agg cs1.toArray) (.agg cs2.toArray)).run g.P w' = .ok (S.eqB (.agg t) p1 z) w' := fun w' =>
          run_eqIn ok T (.agg t) 10000 xt p1 z cs1 cs2 w' w (g.A w) ht.1 (Env.is_lookup ht.2) (by omega) b1 b2
        cases op with
        | eql =>
          refine fin (.bool (S.eqB (.agg t) p1 z)) ⟨.bool, .ro, S.eqB (.agg t) p1 z⟩ (fun w' => by rw [v1, v2]; exact run_eqGuard_agg w' _ _ _ _ _ _ q3) (fun w' => ?_) hκ
          rw [v1, v2, run_eql_struct, he w']
          exact ⟨rfl, binV_bool⟩
        | neq =>
          refine fin (.bool (!S.eqB (.agg t) p1 z)) ⟨.bool, .ro, !S.eqB (.agg t) p1 z⟩ (fun w' => by rw [v1, v2]; exact run_eqGuard_agg w' _ _ _ _ _ _ q3) (fun w' => ?_) hκ
          rw [v1, v2, run_neq_struct, he w']
          exact ⟨rfl, binV_bool⟩
        | _ => cases hκ
      · cases hκ
    · cases hκ
  · cases hκ
end
end Go.Proofs.Ytdnkjfmneppkoaa.Vm
namespace Go.Proofs.Ytdnkjfmneppkoaa.Vm
open Go Go.RowKit
set_option linter.unusedVariables false
section
variable {S : Cx} {α : Type} {g : Gl S} {own : Nat → Option Own} {st : ST S} {a : Act} {w : World}
theorem getP_ro {c : MV S.toNm} : ∀ (t : Ty) (q : Path) (x : S.den t), S.getP t .ro q x = some c → c.m = .ro := by
  intro t
  induction t with
  | slice e t ih => intro q x hg; cases q with
    | nil => cases hg; rfl
    | cons s q => cases s with
      | idx i => exact ih q _ hg
      | _ => cases hg
  | pair a b iha ihb => intro q x hg; cases q with
    | nil => cases hg; rfl
    | cons s q => cases s with
      | fst => exact iha q _ hg
      | snd => exact ihb q _ hg
      | _ => cases hg
  | agg t ih => intro q x hg; cases q with
    | nil => cases hg; rfl
    | cons s q => cases s with
      | inn => exact ih q _ hg
      | _ => cases hg
  | arr n t ih => intro q x hg; cases q with
    | nil => cases hg; rfl
    | cons s q => cases s with
      | el i => exact ih q _ (getP_el hg)
      | _ => cases hg
  | _ => intro q x hg; cases q with
    | nil => cases hg; rfl
    | cons s q => cases s <;> cases hg
theorem fieldPath_some {t : Ty} {f : Nat} {p : Path} (h : fieldPath t f = some p) : ∃ u q, t = .agg u ∧ p = Step.inn :: q ∧ fieldGo u f = some q := by
  cases t with
  | agg u =>
    simp only [fieldPath] at h
    split at h
    · rename_i q hq; cases h; exact ⟨u, q, rfl, rfl, hq⟩
    · cases h
  | _ => cases h
theorem run_fieldAddr {P : Program} {ρ : Operand → Value} {o : Oper} {e : TypeId} {x : Operand} {f : Nat} (ho : o.op = .fieldAddr e x f) {v u : Value} {w : World} (hv : ρ x = u)
    (h : (Instr.fieldAt e u f).run P w = .ok v w) : (execOp ρ o).run P w = .ok (.value v) w := by
  simp only [execOp, ho, hv]; exact run_v h
theorem rd_fieldAddr {o : Oper} {e : TypeId} {x : Operand} {f : Nat} {hn : Hint} {κ π : ST S → Option α} {r : α} (ok : S.Ok) (T : TysOk g.P g.E) (h : Rel g own st a w) (hd : ∀ d, o.dst = some d → d < a.tmps.size)
    (ho : o.op = .fieldAddr e x f) (hκ : opK π g.E hn o st κ = some r) : Rd g o a w κ r := by
  simp only [opK, ho] at hκ
  have hv := av_ok g.E h x 0 0
  split at hκ
  · rename_i t y ex
    rw [ex] at hv
    obtain ⟨b, off, cs, v1, hb, hc, hR⟩ := hv
    split at hκ
    · rename_i ht
      split at hκ
      · rename_i p hp
        obtain ⟨u, q, rfl, rfl, hq⟩ := fieldPath_some hp
        split at hκ
        · rename_i c hg
          obtain ⟨off', tt, h1, h2, h3, h4, h5, h6, h7⟩ := run_fieldAt T (T _ _ (Env.is_lookup ht)) hq
          have hg' : S.getP u .ro q y = some c := hg
          have hcr := getP_ro u q y hg'
          obtain ⟨l', cs', n1, n2⟩ := OW_get ok (own := own) (r := .lim) u .ro q [] (some (b, off)) cs y c (OW_ro.2 (Cx.R_agg.1 hR)) (fieldGo_ok u _ q y hq) hg' (by rw [hcr]; simp)
          obtain ⟨cs'', m1, m2⟩ := h5 w (some (b, off)) cs
          rw [n1] at m1
          cases m1
          obtain ⟨k1, k2⟩ := nav_cells u q .ro y (some (b, off)) cs _ cs' c (cellsAt_len hc) (fun b' off' he => by cases he; exact hc) n1 hg'
          have hc' := k2 _ _ rfl
          rw [hcr] at n2
          have hrun : ∀ w', Below w.heap.size w w' → (execOp a.eval o).run g.P w' = .ok (.value (.pointer (some ⟨b, off + off', none⟩))) w' := fun w' _ => run_fieldAddr ho v1 (h1 w' b off)
          cases hdst : o.dst with
          | none => rw [hdst] at hκ; exact ⟨_, own, st, hrun, by rw [hdst]; exact h, hκ⟩
          | some d =>
            rw [hdst] at hκ
            have hrel := h.put hn (hd d hdst) (x := .rp c.t c.x) (v := .pointer (some ⟨b, off + off', none⟩)) ⟨b, off + off', cs', rfl, hb, hc', OW_ro.1 n2⟩
            exact ⟨_, own, _, hrun, by rw [hdst]; exact hrel, hκ⟩
        · cases hκ
      · cases hκ
    · cases hκ
  · rename_i rt p ex
    rw [ex] at hv
    obtain ⟨b, off, cs, c, hp, v1⟩ := hv
    split at hκ
    · rename_i c' e2
      have := at_place hp e2
      subst this
      split at hκ
      · rename_i ht
        split at hκ
        · rename_i q hq0
          obtain ⟨ct, cm, cx⟩ := c
          obtain ⟨u, q, hct, rfl, hq⟩ := fieldPath_some hq0
          simp only at hct ht
          subst hct
          obtain ⟨off', tt, h1, h2, h3, h4, h5, h6, h7⟩ := run_fieldAt T (T _ _ (Env.is_lookup ht)) hq
          obtain ⟨m', x', hg⟩ := h6 cm cx
          obtain ⟨cs', m1, m2⟩ := h5 w (some (b, off)) cs
          have hpl := hp.go (q := Step.inn :: q) (l' := some (b, off + off')) (cs' := cs') (c' := ⟨tt, m', x'⟩) (fieldGo_ok u _ q cx hq) m1 hg
          exact rd_putK (i := 0) hn h hd (x := .addr rt (p ++ Step.inn :: q)) (fun w' _ => run_fieldAddr ho v1 (h1 w' b off)) ⟨b, off + off', cs', _, hpl, rfl⟩ (fun _ _ _ e => by cases e) hκ
        · cases hκ
      · cases hκ
    · cases hκ
  · cases hκ
theorem rd_field {o : Oper} {e : TypeId} {x : Operand} {f : Nat} {hn : Hint} {κ π : ST S → Option α} {r : α} (ok : S.Ok) (T : TysOk g.P g.E) (h : Rel g own st a w) (hd : ∀ d, o.dst = some d → d < a.tmps.size)
    (ho : o.op = .field e x f) (hκ : opK π g.E hn o st κ = some r) : Rd g o a w κ r := by
  simp only [opK, ho] at hκ
  have hv := av_ok g.E h x e 0
  split at hκ
  · rename_i t m y ex
    rw [ex] at hv
    have := av_ro g.E ex
    subst this
    obtain ⟨cs, hVS, hR⟩ := TR_ro.1 hv
    split at hκ
    · rename_i ht
      split at hκ
      · rename_i p hp
        obtain ⟨u, q, rfl, rfl, hq⟩ := fieldPath_some hp
        split at hκ
        · rename_i c hg
          obtain ⟨off', tt, h1, h2, h3, h4, h5, h6, h7⟩ := run_fieldAt T (T _ _ (Env.is_lookup ht)) hq
          have hg' : S.getP u .ro q y = some c := hg
          have hcr := getP_ro u q y hg'
          have hl : cs.length = S.size u := hR.len ok
          obtain ⟨l', cs', n1, n2⟩ := OW_get ok (own := own) (r := .lim) u .ro q [] none cs y c (OW_ro.2 (Cx.R_agg.1 hR)) (fieldGo_ok u _ q y hq) hg' (by rw [hcr]; simp)
          obtain ⟨cs'', m1, m2⟩ := h5 w none cs
          rw [n1] at m1
          cases m1
          have m2 := m2 hl
          obtain ⟨m', x', hg2⟩ := h6 .ro y
          rw [hg'] at hg2
          cases hg2
          simp only at hcr
          subst hcr
          have v1 : a.eval x = .agg cs.toArray := hVS
          refine rd_put hn h hd (fun w' _ => ?_) (v := valOf tt cs') ⟨cs', VS_cells (S := S) ?_ h4.1 h4.2, OW_ro.1 n2⟩ hκ
          · simp only [execOp, ho, v1]
            refine run_v ?_
            rw [m2]
            exact h7 w' cs hl
          · have := nav_cells u q .ro y none cs _ cs' _ hl (fun b off he => by cases he) n1 hg'
            exact this.1
        · cases hκ
      · cases hκ
    · cases hκ
  · rename_i rt p ex
    rw [ex] at hv
    obtain ⟨l, cs, c, hp, hVS⟩ := hv
    split at hκ
    · rename_i c' e2
      have := at_place hp e2
      subst this
      split at hκ
      · rename_i ht
        split at hκ
        · rename_i q hq0
          obtain ⟨ct, cm, cx⟩ := c
          obtain ⟨u, q, hct, rfl, hq⟩ := fieldPath_some hq0
          simp only at hct ht
          subst hct
          obtain ⟨off', tt, h1, h2, h3, h4, h5, h6, h7⟩ := run_fieldAt T (T _ _ (Env.is_lookup ht)) hq
          obtain ⟨m', x', hg⟩ := h6 cm cx
          obtain ⟨cs', m1, m2⟩ := h5 w l cs
          have hpl := hp.go (q := Step.inn :: q) (cs' := cs') (c' := ⟨tt, m', x'⟩) (fieldGo_ok u _ q cx hq) m1 hg
          have hl : cs.length = S.size u := (hp.cells ok h).1
          have v1 : a.eval x = .agg cs.toArray := hVS
          have hl' := (hpl.cells ok h).1
          have hVS' : VS tt (valOf tt cs') cs' := VS_cells hl' h4.1 h4.2
          have hrun : ∀ w', Below w.heap.size w w' → (execOp a.eval o).run g.P w' = .ok (.value (valOf tt cs')) w' := fun w' _ => by
            simp only [execOp, ho, v1]
            refine run_v ?_
            rw [m2 hl]
            exact h7 w' cs hl
          split at hκ
          · rename_i t2 m2' y2 e3
            have := at_place hpl e3
            cases this
            have own_case : m' ≠ .dd → m' ≠ .ro → putK hn o.dst (.ref rt (p ++ Step.inn :: q)) st κ = some r → Rd g o a w κ r := fun _ _ hk =>
              rd_putK (i := 0) hn h hd hrun (x := .ref rt (p ++ Step.inn :: q)) ⟨_, cs', _, hpl, hVS'⟩ (fun _ _ _ e => by cases e) hk
            cases m' with
            | ro => exact rd_put hn h hd hrun ⟨cs', hVS', OW_ro.1 (place_OW ok h hpl (by simp))⟩ hκ
            | dd => cases hκ
            | own m => exact own_case (by simp) (by simp) hκ
            | pr m n => exact own_case (by simp) (by simp) hκ
          · cases hκ
        · cases hκ
      · cases hκ
    · cases hκ
  · cases hκ
theorem nav_nil {w : World} {t : Ty} {l : Spot} {cs : List Value} : S.nav w t l cs [] = some (l, cs) := by cases t <;> rfl
theorem getP_nil {t : Ty} {m : Mode} {x : S.den t} : S.getP t m [] x = some ⟨t, m, x⟩ := by cases t <;> rfl
theorem okP_nil {t : Ty} {x : S.den t} : S.okP t [] x := by cases t <;> trivial
theorem tup_part {w : World} {Z : Nat → Prop} {c : MV S.toNm} : ∀ (t : Ty) (i : Nat) (x : S.den t) (vs : List Value), tupGo t i x = some c → TupR w Z t x vs → c.m = .ro ∧ ∃ v, vs[i]? = some v ∧ ∃ cs, VS c.t v cs ∧ S.R w Z c.t cs c.x := by
  intro t
  induction t with
  | pair a b iha ihb =>
    intro i x vs h hv
    cases vs with
    | nil => exact hv.elim
    | cons v vs =>
      obtain ⟨h1, h2⟩ := hv
      cases i with
      | zero => cases h; exact ⟨rfl, v, rfl, h1⟩
      | succ i => exact ihb i x.2 vs h h2
  | _ =>
    intro i x vs h hv
    cases i with
    | zero =>
      cases h
      match vs, hv with
      | [v], hv => exact ⟨rfl, v, rfl, hv⟩
    | succ i => cases h
theorem rd_extract {o : Oper} {x : Operand} {i : Nat} {hn : Hint} {κ π : ST S → Option α} {r : α} (h : Rel g own st a w) (hd : ∀ d, o.dst = some d → d < a.tmps.size)
    (ho : o.op = .extract x i) (hκ : opK π g.E hn o st κ = some r) : Rd g o a w κ r := by
  simp only [opK, ho] at hκ
  split at hκ
  · rename_i s
    split at hκ
    · rename_i t m y e
      have hv := h.vals s
      rw [e] at hv
      obtain ⟨vs, v1, hT⟩ := hv
      split at hκ
      · rename_i c hc
        obtain ⟨hm, v, h1, cs, h2, h3⟩ := tup_part t i y vs.toList hc hT
        have v1 : a.eval (.tmp s) = .tuple vs := v1
        obtain ⟨ct, cm, cx⟩ := c
        simp only at hm
        subst hm
        refine rd_put hn h hd (fun w' _ => ?_) (v := v) ⟨cs, h2, h3⟩ hκ
        have h1' : vs[i]? = some v := by simpa using h1
        simp only [execOp, ho, v1]
        refine run_v ?_
        simp only [Instr.extract, h1']; rfl
      · cases hκ
    · cases hκ
  · cases hκ
theorem run_indexAddr {P : Program} {E : Env S} (ok : S.Ok) (T : TysOk P E) {e ee : Nat} {t : Ty} (ht : E.is e (.slice ee t) = true) {b off n c : Nat} {k : IntKind} {j : Int} (h0 : 0 ≤ j) (h1 : j < n) (w : World) :
    (Instr.indexAt e (.slice (some ⟨b, off, none⟩) n c) (.int k j)).run P w = .ok (.pointer (some ⟨b, off + j.toNat * S.size t, none⟩)) w := by
  have tf := T _ _ (Env.is_lookup ht)
  obtain ⟨hu, he, hp⟩ := tf.und
  have hs := (T _ _ he).size w
  rw [Cx.size_un ok] at hs
  simp only [Instr.indexAt, asIntOf, pure_bind, Sem.run_bind, run_underlying hu, Result.andThen_ok, h0, h1, and_self, if_true, hs, add_off]
  rfl
theorem arr_struct {P : Program} {E : Env S} (T : TysOk P E) {n : Nat} {v : Ty} {off : Nat} : ∀ {fs : List Field}, FieldsOk S E fs (.arr n v) off → False
  | [_], hf => (T _ _ hf.2.1).und
  | [], hf => hf
  | _ :: _ :: _, hf => hf
theorem run_indexArr {P : Program} {E : Env S} (T : TysOk P E) {e k : Nat} {t : Ty} (ht : E.is e (.agg (.arr k t)) = true) {b off : Nat} {kk : IntKind} {j : Int} (h0 : 0 ≤ j) (h1 : j < k) (w : World) :
    (Instr.indexAt e (.pointer (some ⟨b, off, none⟩)) (.int kk j)).run P w = .ok (.pointer (some ⟨b, off + j.toNat * S.size t, none⟩)) w := by
  rcases (T _ _ (Env.is_lookup ht)).und with ⟨fs, hu, hf⟩ | ⟨n, v, ee, heq, hu, hl, hpos⟩
  · exact (arr_struct T hf).elim
  · cases heq
    have hs := (T _ _ hl).size w
    simp only [Instr.indexAt, asIntOf, pure_bind, Sem.run_bind, run_underlying hu, Result.andThen_ok, Instr.sureAddr, h0, h1, and_self, if_true, hs, add_off]
    rfl
theorem rd_indexAddr {o : Oper} {e : TypeId} {x i : Operand} {hn : Hint} {κ π : ST S → Option α} {r : α} (ok : S.Ok) (T : TysOk g.P g.E) (h : Rel g own st a w) (hd : ∀ d, o.dst = some d → d < a.tmps.size)
    (ho : o.op = .indexAddr e x i) (hκ : opK π g.E hn o st κ = some r) : Rd g o a w κ r := by
  simp only [opK, ho] at hκ
  split at hκ
  · rename_i k j e1
    have v1 := int_ok ok g.E h e1
    have hv := av_ok g.E h x e 0
    split at hκ
    · rename_i ee t m l ex
      rw [ex] at hv
      have := av_ro g.E ex
      subst this
      obtain ⟨cs, hVS, hR⟩ := TR_ro.1 hv
      split at hκ
      · rename_i ht
        obtain ⟨h0, h1, hκ⟩ := within_some hκ
        obtain ⟨ad, c, rfl, hc, hel⟩ := Cx.R_slice.1 hR
        have hlt : j.toNat < List.length l := by omega
        obtain ⟨b, off, cs', rfl, hb, hcell, hR'⟩ := hel j.toNat _ (getD_nth (S.zero t) hlt)
        have v2 : a.eval x = .slice (some ⟨b, off, none⟩) (List.length l) c := (List.cons.inj hVS).1.symm
        have hrun : ∀ w', Below w.heap.size w w' → (execOp a.eval o).run g.P w' = .ok (.value (.pointer (some ⟨b, off + j.toNat * S.size t, none⟩))) w' := fun w' _ => by
          simp only [execOp, ho, v1, v2]
          exact run_v (run_indexAddr ok T ht h0 h1 w')
        cases hdst : o.dst with
        | none => rw [hdst] at hκ; exact ⟨_, own, st, hrun, by rw [hdst]; exact h, hκ⟩
        | some d =>
          rw [hdst] at hκ
          have hrel := h.put hn (hd d hdst) (x := .rp (S.un t) (S.unx t (List.getD l j.toNat (S.zero t)))) (v := .pointer (some ⟨b, off + j.toNat * S.size t, none⟩)) ⟨b, _, cs', rfl, hb, by rw [Cx.size_un ok]; exact hcell, Cx.R_un.1 hR'⟩
          exact ⟨_, own, _, hrun, by rw [hdst]; exact hrel, hκ⟩
      · cases hκ
    · rename_i rt p ex
      rw [ex] at hv
      obtain ⟨lp, cs, c, hp, hVS⟩ := hv
      split at hκ
      · rename_i ee t m l e2
        have := at_place hp e2
        subst this
        split at hκ
        · rename_i m ht
          obtain ⟨h0, h1, hκ⟩ := within_some hκ
          have hO := place_OW ok h hp (by simp)
          have hlt : j.toNat < List.length l := by omega
          rcases hO with ⟨_, hl⟩ | ⟨b, cc, cells, hcs, hb, hblk, hle, hmax, hsz, hel⟩
          · have hl : (l : List (S.den t)) = [] := hl
            have : List.length (l : List (S.den t)) = 0 := by rw [hl]; rfl
            simp_all
          · subst hcs
            have v2 : a.eval x = .slice (some ⟨b, 0, none⟩) (List.length l) cc := (List.cons.inj hVS).1.symm
            have hcell := cellsAt_row hblk (show 0 + j.toNat * S.size t + S.size t ≤ cells.size by rw [Nat.zero_add]; exact row_fits hlt hle hsz)
            have hpl := hp.go (q := [Step.idx j.toNat]) (l' := some (b, 0 + j.toNat * S.size t)) (cs' := (cells.toList.drop (0 + j.toNat * S.size t)).take (S.size t)) (c' := ⟨t, m, List.getD l j.toNat (S.zero t)⟩) ⟨hlt, okP_nil⟩
              (by simp only [Cx.nav, hcell]) getP_nil
            refine rd_putK (i := 0) hn h hd (x := .addr rt (p ++ [Step.idx j.toNat])) (v := .pointer (some ⟨b, 0 + j.toNat * S.size t, none⟩)) (fun w' _ => ?_) ⟨b, _, _, _, hpl, rfl⟩ (fun _ _ _ e => by cases e) hκ
            simp only [execOp, ho, v1, v2]
            exact run_v (run_indexAddr ok T ht h0 h1 w')
        · cases hκ
      · cases hκ
    · rename_i k t l ex
      rw [ex] at hv
      obtain ⟨b, off, cs, v2, hb, hc, hR⟩ := hv
      split at hκ
      · rename_i ht
        obtain ⟨h0, h1, hκ⟩ := within_some hκ
        have hlt : j.toNat < k := by omega
        obtain ⟨r1, r2, r3⟩ := Cx.R_arr.1 (Cx.R_agg.1 hR)
        have hel := r3 j.toNat _ (getD_nth (l := l) (S.zero t) (r1.symm ▸ hlt))
        have hcell : cellsAt w b (off + j.toNat * S.size t) (S.size t) = some ((cs.drop (j.toNat * S.size t)).take (S.size t)) := by
          have hs : S.size (.agg (.arr k t)) = j.toNat * S.size t + (S.size t + (k * S.size t - j.toNat * S.size t - S.size t)) := by
            have := row_fits (n := k * S.size t) hlt (Nat.le_refl _) rfl
            show k * S.size t = _
            omega
          rw [hs] at hc
          exact cellsAt_take (cellsAt_drop hc)
        have hrun : ∀ w', Below w.heap.size w w' → (execOp a.eval o).run g.P w' = .ok (.value (.pointer (some ⟨b, off + j.toNat * S.size t, none⟩))) w' := fun w' _ => by
          simp only [execOp, ho, v1, v2]
          exact run_v (run_indexArr T ht h0 h1 w')
        cases hdst : o.dst with
        | none => rw [hdst] at hκ; exact ⟨_, own, st, hrun, by rw [hdst]; exact h, hκ⟩
        | some d =>
          rw [hdst] at hκ
          have hrel := h.put hn (hd d hdst) (x := .rp t (List.getD l j.toNat (S.zero t))) (v := .pointer (some ⟨b, off + j.toNat * S.size t, none⟩)) ⟨b, _, _, rfl, hb, hcell, hel⟩
          exact ⟨_, own, _, hrun, by rw [hdst]; exact hrel, hκ⟩
      · cases hκ
    · rename_i rt p ex
      rw [ex] at hv
      obtain ⟨b, off, cs, c, hp, v2⟩ := hv
      split at hκ
      · rename_i k t m l e2
        have := at_place hp e2
        subst this
        split at hκ
        · rename_i ht
          obtain ⟨h0, h1, hκ⟩ := within_some hκ
          have hlt : j.toNat < k := by omega
          have hpl := hp.go (q := [Step.inn, Step.el j.toNat]) (l' := some (b, off + j.toNat * S.size t)) (cs' := (cs.drop (j.toNat * S.size t)).take (S.size t)) (c' := ⟨t, m.elem, List.getD l j.toNat (S.zero t)⟩) ⟨hlt, okP_nil⟩
            ((nav_el_eq (w := w) (t := t) (p := []) (l := some (b, off)) (cs := cs) hlt).trans nav_nil) ((getP_el_eq (n := k) (t := t) (p := []) (m := m) (x := l)).trans getP_nil)
          refine rd_putK (i := 0) hn h hd (x := .addr rt (p ++ [Step.inn, Step.el j.toNat])) (v := .pointer (some ⟨b, off + j.toNat * S.size t, none⟩)) (fun w' _ => ?_) ⟨b, _, _, _, hpl, rfl⟩ (fun _ _ _ e => by cases e) hκ
          simp only [execOp, ho, v1, v2]
          exact run_v (run_indexArr T ht h0 h1 w')
        · cases hκ
      · cases hκ
    · cases hκ
  · cases hκ
theorem rd_index {o : Oper} {e : TypeId} {x i : Operand} {hn : Hint} {κ π : ST S → Option α} {r : α} (ok : S.Ok) (T : TysOk g.P g.E) (h : Rel g own st a w) (hd : ∀ d, o.dst = some d → d < a.tmps.size)
    (ho : o.op = .index e x i) (hκ : opK π g.E hn o st κ = some r) : Rd g o a w κ r := by
  simp only [opK, ho] at hκ
  split at hκ
  · rename_i kk j e1
    have v1 := int_ok ok g.E h e1
    have hv := av_ok g.E h x e 0
    split at hκ
    · rename_i m s ex
      rw [ex] at hv
      have := av_ro g.E ex
      subst this
      obtain ⟨cs, hVS, hR⟩ := TR_ro.1 hv
      split at hκ
      · rename_i e3
        have v2 : a.eval x = .string (ByteArray.mk (Array.mk s)) := by
          have h1 : cs = [a.eval x] := hVS
          rw [h1] at hR
          exact (List.cons.inj (Cx.R_str.1 hR)).1
        obtain ⟨h0, h1, hκ⟩ := within_some hκ
        have hu : g.P.underlying e = some .string := (T _ _ (Env.is_lookup e3)).und
        have hlt : j.toNat < List.length s := by omega
        refine rd_put hn h hd (fun w' _ => ?_) (v := .int .u8 ((List.getD s j.toNat 0 : UInt8).toNat : Int)) ro_int hκ
        simp only [execOp, ho, v1, v2]
        refine run_v ?_
        have hget := ba_get s j.toNat hlt
        simp only [Instr.index, asIntOf, pure_bind, Sem.run_bind, run_underlying hu, Result.andThen_ok, h0, if_true, hget]
        rfl
      · cases hκ
    · rename_i k t m l ex
      rw [ex] at hv
      have := av_ro g.E ex
      subst this
      obtain ⟨cs, hVS, hR⟩ := TR_ro.1 hv
      split at hκ
      · rename_i e3
        have v2 : a.eval x = .agg cs.toArray := hVS
        obtain ⟨h0, h1, hκ⟩ := within_some hκ
        rcases (T _ _ (Env.is_lookup e3)).und with ⟨fs, hu, hf⟩ | ⟨n, v, ee, heq, hu, hl, hpos⟩
        · exact (arr_struct T hf).elim
        · cases heq
          have hlt : j.toNat < k := by omega
          obtain ⟨r1, r2, r3⟩ := Cx.R_arr.1 (Cx.R_agg.1 hR)
          have hpt := run_partAt (S := S) (P := g.P) (T _ _ hl)
          have hel := r3 j.toNat _ (getD_nth (l := l) (S.zero t) (r1.symm ▸ hlt))
          have hfit := row_fits (n := cs.length) hlt (Nat.le_refl _) r2
          refine rd_put hn h hd (fun w' _ => ?_) (v := valOf t ((cs.drop (j.toNat * S.size t)).take (S.size t))) ⟨_, VS_cells (S := S) (el_len r2 hlt) (und_ne (T _ _ hl)).1 (und_ne (T _ _ hl)).2, hel⟩ hκ
          simp only [execOp, ho, v1, v2]
          refine run_v ?_
          simp only [Instr.index, asIntOf, pure_bind, Sem.run_bind, run_underlying hu, Result.andThen_ok, h0, h1, and_self, if_true, (T _ _ hl).size w']
          exact hpt w' cs _ hfit
      · cases hκ
    · cases hκ
  · cases hκ
theorem und_any {P : Program} {E : Env S} {t : Nat} {ty : Ty} (h : TyFact P E t ty) : ∃ d, P.underlying t = some d := by
  have hu := h.und
  cases ty with
  | int k => exact ⟨_, hu⟩
  | bool => exact ⟨_, hu⟩
  | str => exact ⟨_, hu⟩
  | slice e u => exact ⟨_, hu.1⟩
  | ptr n => obtain ⟨e, i, h1, _⟩ := hu; exact ⟨_, h1⟩
  | lptr n => obtain ⟨e, i, h1, _⟩ := hu; exact ⟨_, h1⟩
  | agg u => rcases hu with ⟨fs, h1, _⟩ | ⟨_, _, _, _, h1, _⟩ <;> exact ⟨_, h1⟩
  | map k v => obtain ⟨kt, et, h1, _⟩ := hu; exact ⟨_, h1⟩
  | clo f u => obtain ⟨ps, rs, v, h1⟩ := hu; exact ⟨_, h1⟩
  | _ => exact (hu : False).elim
theorem bytes_fold (l : List Int) (s : ByteArray) : l.foldl (fun r n => r.push (UInt8.ofNat n.toNat)) s = s ++ ByteArray.mk (Array.mk (bytesOf l)) := by
  induction l generalizing s with
  | nil => apply ByteArray.ext; simp [bytesOf]
  | cons n l ih =>
    rw [List.foldl_cons, ih]
    apply ByteArray.ext
    simp [bytesOf]
theorem run_bytes {P : Program} {w : World} {ad : Option Addr} {c : Nat} (l : List Int) (h : ∀ j z, l[j]? = some z → ∃ a', ad = some a' ∧ w.cell? (a'.add j) = some (.int .u8 z)) :
    (Conv.bytesToString (.slice ad l.length c)).run P w = .ok (.string (ByteArray.mk (Array.mk (bytesOf l)))) w := by
  cases ad with
  | none =>
    cases l with
    | nil => rfl
    | cons z l => obtain ⟨_, e, _⟩ := h 0 z rfl; cases e
  | some ad =>
    have hrun := run_loadCells_list (P := P) w ad (l.map (Value.int .u8)) (fun j v hj => by
      rw [List.getElem?_map] at hj
      cases hy : l[j]? with
      | none => rw [hy] at hj; cases hj
      | some z =>
        rw [hy] at hj
        cases hj
        obtain ⟨_, e, h2⟩ := h j z hy
        cases e
        exact h2)
    rw [List.length_map] at hrun
    rw [run_bytesToString w ad _ c l hrun, bytes_fold]
    simp
def isRow : Option Ty → Bool | some (.slice _ _) => true | _ => false
theorem rd_convert {o : Oper} {src dst : TypeId} {x : Operand} {hn : Hint} {κ π : ST S → Option α} {r : α} (ok : S.Ok) (T : TysOk g.P g.E) (h : Rel g own st a w) (hd : ∀ d, o.dst = some d → d < a.tmps.size)
    (ho : o.op = .convert src dst x) (hns : isRow (g.E.tys.lookup dst) = false) (hκ : opK π g.E hn o st κ = some r) : Rd g o a w κ r := by
  simp only [opK, ho] at hκ
  split at hκ
  · rename_i ts k k' m y e1 e2 e3
    have v1 : a.eval x = .int k' y := int_ok ok g.E h (show asInt (st.val g.E x src) = some (k', y) by rw [e3]; rfl)
    obtain ⟨d1, hu1⟩ := und_any (T _ _ e1)
    have hu2 : g.P.underlying dst = some (.int k) := (T _ _ e2).und
    refine rd_put hn h hd (fun w' _ => ?_) (v := .int k (k.wrap y)) ro_int hκ
    simp only [execOp, ho, v1]
    refine run_v ?_
    simp only [convert, Sem.run_bind, run_underlying hu1, run_underlying hu2, Result.andThen_ok]
    rfl
  · rename_i m y e1 e2 e3
    have v1 := str_ok ok g.E h e3
    have hu1 : g.P.underlying src = some .string := (T _ _ e1).und
    have hu2 : g.P.underlying dst = some .string := (T _ _ e2).und
    refine rd_put hn h hd (fun w' _ => ?_) (v := .string (ByteArray.mk (Array.mk y))) ro_str hκ
    simp only [execOp, ho, v1]
    refine run_v ?_
    simp only [convert, Sem.run_bind, run_underlying hu1, run_underlying hu2, Result.andThen_ok]
    rfl
  · rename_i es es' m y e1 e2 e3
    obtain ⟨cs, hVS, hR⟩ := val_ok ok g.E h e3
    obtain ⟨hu1, he, _⟩ := (T _ _ e1).und
    have hu8 : g.P.underlying es = some (.int .u8) := (T _ _ he).und
    have hu2 : g.P.underlying dst = some .string := (T _ _ e2).und
    obtain ⟨ad, c, rfl, hc, hel⟩ := Cx.R_slice.1 hR
    have v2 : a.eval x = .slice ad (List.length y) c := (List.cons.inj hVS).1.symm
    refine rd_put hn h hd (fun w' hw' => ?_) (v := .string (ByteArray.mk (Array.mk (bytesOf y)))) ro_str hκ
    simp only [execOp, ho, v2]
    refine run_v ?_
    rw [run_convert_bytes_string w' src dst es ad _ c hu1 hu8 hu2]
    exact run_bytes y fun j z hy => by
      obtain ⟨b, off, cs', rfl, hb, hcl, hR'⟩ := hel j z hy
      refine ⟨_, rfl, ?_⟩
      have hcl' : cellsAt w' b (off + j * 1) 1 = some cs' := by
        rw [cellsAt_same (hw'.block b (cellsAt_lt hcl))]; exact hcl
      have := cell_of hcl' 0 (.int .u8 z) (by rw [Cx.R_int.1 hR']; rfl)
      rw [add_off, Nat.add_zero, Nat.mul_one] at this
      rw [add_off]
      exact this
  · rename_i e1 e2 e3
    rw [e2] at hns; cases hns
  · cases hκ
theorem run_lenMap {P : Program} {t k e ty : TypeId} (ht : P.underlying t = some (.map k e)) {b : Nat} {es : Array MapEntry} {clock : Nat} {w : World} (hb : w.heap[b]? = some (.map es clock)) :
    (Builtin.len_ #[t] ty #[.map (some b)]).run P w = .ok (.int .i64 es.size) w := by
  simp [Builtin.len_, run_underlying ht, MapKept.run_getObj_map hb, goInt]
theorem map_at (ok : S.Ok) (h : Rel g own st a w) {x : Operand} {t : Nat} {r : Root} {p : Path} {k v : Ty} {m1 m2 : Mode} {l : List (S.den k × S.den v)} (ex : st.av g.E x t = .ref r p) (e2 : st.at r p = some ⟨.map k v, .pr m1 m2, l⟩) :
    ∃ b es clock, m1 = .dd ∧ m2 = .dd ∧ a.eval x = .map (some b) ∧ own b = some (r, some p) ∧ b < w.heap.size ∧ w.heap[b]? = some (.map es clock) ∧ S.Ents w k v es.toList l := by
  have hv := av_ok g.E h x t 0
  rw [ex] at hv
  obtain ⟨l0, cs, c, hp, hVS⟩ := hv
  have := at_place hp e2
  subst this
  have hO := place_OW ok h hp (by simp)
  cases m1 <;> cases m2 <;> first | exact hO.elim | skip
  obtain ⟨b, es, clock, h1, h2, h3, h4⟩ := hO
  have hVS : cs = [a.eval x] := hVS
  rw [hVS] at h1
  exact ⟨b, es, clock, rfl, rfl, (List.cons.inj h1).1, h2, (h.fresh b (by rw [h2]; simp)).2, h3, h4⟩
theorem rd_len {o : Oper} {c : Call} {hn : Hint} {κ π : ST S → Option α} {r : α} (ok : S.Ok) (T : TysOk g.P g.E) (h : Rel g own st a w) (hd : ∀ d, o.dst = some d → d < a.tmps.size)
    (ho : o.op = .call c) (hc : c.callee = .builtin .len) (hκ : opK π g.E hn o st κ = some r) : Rd g o a w κ r := by
  simp only [opK, ho, hc] at hκ
  split at hκ
  · rename_i x t ex et
    have ha : c.args = #[x] := by rw [← Array.toList_inj]; exact ex
    have hta : c.argTypes = #[t] := by rw [← Array.toList_inj]; exact et
    split at hκ
    · rename_i m s e1
      have v1 := str_ok ok g.E h e1
      split at hκ
      · rename_i ht
        have hu : g.P.underlying t = some .string := (T _ _ (Env.is_lookup ht)).und
        refine rd_put hn h hd (fun w' _ => ?_) (v := .int .i64 (List.length s : Int)) ro_int hκ
        simp only [execOp, ho, resolve, hc, ha, hta, pure_bind, Sem.run_bind, invoke, builtin, List.map_toArray, List.map_cons, List.map_nil, v1, run_len_string _ _ _ _ hu, Result.andThen_ok]
        rfl
      · cases hκ
    · rename_i ee u m s e1
      obtain ⟨cs, hVS, hR⟩ := val_ok ok g.E h e1
      obtain ⟨ad, cc, rfl, hc', hel⟩ := Cx.R_slice.1 hR
      have v2 : a.eval x = .slice ad (List.length s) cc := (List.cons.inj hVS).1.symm
      split at hκ
      · rename_i ht
        have hu := (T _ _ (Env.is_lookup ht)).und.1
        have hu' : g.P.underlying t = some (.slice (g.P.elem t)) := by rw [hu]; simp [Program.elem, hu]
        refine rd_put hn h hd (fun w' _ => ?_) (v := .int .i64 (List.length s : Int)) ro_int hκ
        simp only [execOp, ho, resolve, hc, ha, hta, pure_bind, Sem.run_bind, invoke, builtin, List.map_toArray, List.map_cons, List.map_nil, v2, run_len_slice _ _ _ _ _ _ hu', Result.andThen_ok]
        rfl
      · cases hκ
    · split at hκ
      · rename_i r p ex
        split at hκ
        · rename_i k v m l e2
          split at hκ
          · rename_i m1 m2 ht
            obtain ⟨b, es, clock, _, _, v1, hb, hlt, hblk, hE⟩ := map_at ok h ex e2
            obtain ⟨kt, et, hu, _⟩ := (T _ _ (Env.is_lookup ht)).und
            refine rd_put hn h hd (fun w' hw' => ?_) (v := .int .i64 (List.length (l : List (S.den k × S.den v)) : Int)) ro_int hκ
            have hb' : w'.heap[b]? = some (.map es clock) := by rw [hw'.block b hlt]; exact hblk
            have hsz : es.size = List.length (l : List (S.den k × S.den v)) := by have := hE.1; simpa using this
            simp only [execOp, ho, resolve, hc, ha, hta, pure_bind, Sem.run_bind, invoke, builtin, List.map_toArray, List.map_cons, List.map_nil, v1, run_lenMap hu hb', Result.andThen_ok, hsz]
            rfl
          · cases hκ
        · cases hκ
      · cases hκ
  · cases hκ
theorem rd_min {o : Oper} {c : Call} {hn : Hint} {κ π : ST S → Option α} {r : α} (ok : S.Ok) (h : Rel g own st a w) (hd : ∀ d, o.dst = some d → d < a.tmps.size)
    (ho : o.op = .call c) (hc : c.callee = .builtin .min) (hκ : opK π g.E hn o st κ = some r) : Rd g o a w κ r := by
  simp only [opK, ho, hc] at hκ
  split at hκ
  · rename_i x y t u ex et
    have ha : c.args = #[x, y] := by rw [← Array.toList_inj]; exact ex
    split at hκ
    · rename_i k p k' q e1 e2
      have v1 := int_ok ok g.E h e1
      have v2 := int_ok ok g.E h e2
      refine rd_put hn h hd (fun w' _ => ?_) (v := .int k (minI p q)) ro_int hκ
      simp only [execOp, ho, resolve, hc, ha, pure_bind, Sem.run_bind, invoke, builtin, List.map_toArray, List.map_cons, List.map_nil, v1, v2, run_min_int2, Result.andThen_ok]
      have : minI p q = if q < p then q else p := by unfold minI; split <;> omega
      rw [this]; rfl
    · cases hκ
  · cases hκ
theorem rd_max {o : Oper} {c : Call} {hn : Hint} {κ π : ST S → Option α} {r : α} (ok : S.Ok) (h : Rel g own st a w) (hd : ∀ d, o.dst = some d → d < a.tmps.size)
    (ho : o.op = .call c) (hc : c.callee = .builtin .max) (hκ : opK π g.E hn o st κ = some r) : Rd g o a w κ r := by
  simp only [opK, ho, hc] at hκ
  split at hκ
  · rename_i x y t u ex et
    have ha : c.args = #[x, y] := by rw [← Array.toList_inj]; exact ex
    split at hκ
    · rename_i k p k' q e1 e2
      have v1 := int_ok ok g.E h e1
      have v2 := int_ok ok g.E h e2
      refine rd_put hn h hd (fun w' _ => ?_) (v := .int k (maxI p q)) ro_int hκ
      simp only [execOp, ho, resolve, hc, ha, pure_bind, Sem.run_bind, invoke, builtin, List.map_toArray, List.map_cons, List.map_nil, v1, v2, run_max_int2, Result.andThen_ok]
      have : maxI p q = if q > p then q else p := by unfold maxI; split <;> omega
      rw [this]; rfl
    · cases hκ
  · cases hκ
end
end Go.Proofs.Ytdnkjfmneppkoaa.Vm
namespace Go.Proofs.Ytdnkjfmneppkoaa.Vm
open Go Go.RowKit
set_option linter.unusedVariables false
section
variable {S : Cx} {α : Type} {g : Gl S} {own : Nat → Option Own} {st : ST S} {a : Act} {w : World}
theorem cast_self {M : Nm} {t : Ty} {x : M.den t} : M.cast t t x = some x := by
  unfold Nm.cast
  split
  · rfl
  · rename_i h _; exact absurd rfl h
theorem OW_sub2 (ok : S.Ok) {w' : World} {own' : Nat → Option Own} {Z Z' : Nat → Prop} {r : Root} {t' : Ty} {m' : Mode} {y : S.den t'} (hZ : ∀ b, Z b → Z' b) (hZw : ∀ b, Z b → w'.heap[b]? = w.heap[b]?) {l' : Spot} {cs0 : List Value} :
    ∀ (t : Ty) (m : Mode) (q p : Path) (l : Spot) (cs : List Value) (x : S.den t) (n : Mode) (z : S.den t),
    S.OW w own Z r t m p cs x → S.okP t q x → S.setP t' m' y t m q x = some (n, z) → S.nav w t l cs q = some (l', cs0) →
    (∀ b' q', own b' = some (r, some (p ++ q')) → (¬ ∃ s, q' = q ++ s) → own' b' = some (r, some (p ++ q')) ∧ w'.heap[b']? = w.heap[b']?) →
    S.OW w' own' Z' r t' m' (p ++ q) cs0 y → S.OW w' own' Z' r t n p cs z := by
  intro t
  induction t with
  | slice e t ih =>
    intro m q p l cs x n z h hq hs hn hkeep hnew
    cases q with
    | nil =>
      cases hn
      simp only [Cx.setP] at hs
      split at hs
      · rename_i z' hz
        cases hs
        obtain ⟨e', rfl⟩ := cast_some hz
        subst e'
        simpa using hnew
      · cases hs
    | cons s q =>
      cases s with
      | idx i =>
        obtain ⟨hi, hq⟩ := hq
        cases m with
        | own em =>
          rcases h with ⟨_, rfl⟩ | ⟨bb, cc, cells, h1, h2, h3, h4, h5, h6, h7⟩
          · simp at hi
          · have hcell := cellsAt_row h3 (show 0 + i * S.size t + S.size t ≤ cells.size by rw [Nat.zero_add]; exact row_fits hi h4 h6)
            rw [h1] at hn
            simp only [Cx.nav, hcell] at hn
            rw [Nat.zero_add] at hn
            simp only [Cx.setP] at hs
            split at hs
            · rename_i n' z' hs'
              split at hs
              · rename_i hne _
                cases hs
                subst hne
                have hel := h7 i _ (getD_nth (l := x) (S.zero t) hi)
                have hi' := ih n' q (p ++ [Step.idx i]) _ _ _ n' z' hel hq hs' hn (fun b' q' hb' hno => by
                  have := hkeep b' (Step.idx i :: q') (by simpa using hb') (by rintro ⟨s, hs⟩; exact hno ⟨s, by simpa using hs⟩)
                  simpa using this) (by simpa using hnew)
                have hown' : own' bb = some (r, some p) ∧ w'.heap[bb]? = w.heap[bb]? := by
                  have := hkeep bb [] (by simpa using h2) (by rintro ⟨s, hs⟩; simp at hs)
                  simpa using this
                have hlen : List.length (List.set x i z') = List.length x := List.length_set
                refine .inr ⟨bb, cc, cells, by rw [hlen]; exact h1, hown'.1, hown'.2.trans h3, by rw [hlen]; exact h4, h5, h6, fun j u hu => ?_⟩
                by_cases hji : j = i
                · subst hji
                  have hu' : u = z' := by
                    rw [nth_set_self hi] at hu; exact (Option.some.inj hu).symm
                  subst hu'
                  exact hi'
                · have hu' : nth x j = some u := by
                    have : nth (List.set x i z') j = nth x j := nth_set_ne hji
                    rw [← this]; exact hu
                  refine OW_frame hZ hZw t n' (p ++ [Step.idx j]) (p ++ [Step.idx j]) _ u (fun b' q' hb' => ?_) (h7 j u hu')
                  have := hkeep b' (Step.idx j :: q') (by simpa using hb') (by rintro ⟨s, hs⟩; simp at hs; exact hji hs.1)
                  simpa using this
              · cases hs
            · cases hs
        | _ => cases hs
      | _ => exact (hq : False).elim
  | pair a b2 iha ihb =>
    intro m q p l cs x n z h hq hs hn hkeep hnew
    cases q with
    | nil =>
      cases hn
      simp only [Cx.setP] at hs
      split at hs
      · rename_i z' hz
        cases hs
        obtain ⟨e', rfl⟩ := cast_some hz
        subst e'
        simpa using hnew
      · cases hs
    | cons s q =>
      obtain ⟨c1, c2, rfl, h2, h3, h4⟩ := OW_pair h
      cases s with
      | fst =>
        simp only [Cx.setP] at hs
        split at hs
        · rename_i n' z' hs'
          cases hs
          have hn' : S.nav w a l c1 q = some (l', cs0) := by
            simp only [Cx.nav, ← h2, List.take_left'] at hn
            simpa using hn
          have i1 := iha m.fst q (p ++ [Step.fst]) l c1 x.1 n' z' h3 hq hs' hn' (fun b' q' hb' hno => by
            have := hkeep b' (Step.fst :: q') (by simpa using hb') (by rintro ⟨s, hs⟩; exact hno ⟨s, by simpa using hs⟩)
            simpa using this) (by simpa using hnew)
          have h4' : S.OW w' own' Z' r b2 m.snd (p ++ [Step.snd]) c2 x.2 := by
            refine OW_frame hZ hZw b2 m.snd (p ++ [Step.snd]) (p ++ [Step.snd]) _ _ (fun b' q' hb' => ?_) h4
            have := hkeep b' (Step.snd :: q') (by simpa using hb') (by rintro ⟨s, hs⟩; simp at hs)
            simpa using this
          exact OW_pair_mk h2 i1 h4'
        · cases hs
      | snd =>
        simp only [Cx.setP] at hs
        split at hs
        · rename_i n' z' hs'
          cases hs
          have hn' : S.nav w b2 (l.map fun x => (x.1, x.2 + S.size a)) c2 q = some (l', cs0) := by
            simp only [Cx.nav] at hn
            simpa [← h2] using hn
          have i1 := ihb m.snd q (p ++ [Step.snd]) _ c2 x.2 n' z' h4 hq hs' hn' (fun b' q' hb' hno => by
            have := hkeep b' (Step.snd :: q') (by simpa using hb') (by rintro ⟨s, hs⟩; exact hno ⟨s, by simpa using hs⟩)
            simpa using this) (by simpa using hnew)
          have h3' : S.OW w' own' Z' r a m.fst (p ++ [Step.fst]) c1 x.1 := by
            refine OW_frame hZ hZw a m.fst (p ++ [Step.fst]) (p ++ [Step.fst]) _ _ (fun b' q' hb' => ?_) h3
            have := hkeep b' (Step.fst :: q') (by simpa using hb') (by rintro ⟨s, hs⟩; simp at hs)
            simpa using this
          exact OW_pair_mk h2 h3' i1
        · cases hs
      | _ => exact (hq : False).elim
  | agg t ih =>
    intro m q p l cs x n z h hq hs hn hkeep hnew
    cases q with
    | nil =>
      cases hn
      simp only [Cx.setP] at hs
      split at hs
      · rename_i z' hz
        cases hs
        obtain ⟨e', rfl⟩ := cast_some hz
        subst e'
        simpa using hnew
      · cases hs
    | cons s q =>
      cases s with
      | inn =>
        simp only [Cx.setP] at hs
        split at hs
        · rename_i n' z' hs'
          cases hs
          exact OW_agg.2 (ih m q (p ++ [Step.inn]) l cs x n z (OW_agg.1 h) hq hs' hn (fun b' q' hb' hno => by
            have := hkeep b' (Step.inn :: q') (by simpa using hb') (by rintro ⟨s, hs⟩; exact hno ⟨s, by simpa using hs⟩)
            simpa using this) (by simpa using hnew))
        · cases hs
      | _ => exact (hq : False).elim
  | arr k t ih =>
    intro m q p l cs x n z h hq hs hn hkeep hnew
    cases q with
    | nil =>
      cases hn
      simp only [Cx.setP] at hs
      split at hs
      · rename_i z' hz
        cases hs
        obtain ⟨e', rfl⟩ := cast_some hz
        subst e'
        simpa using hnew
      · cases hs
    | cons s q =>
      cases s with
      | el i =>
        obtain ⟨hi, hq⟩ := hq
        obtain ⟨rfl, rfl, z', hs', rfl⟩ := setP_el hs
        obtain ⟨_, hn⟩ := nav_el hn
        obtain ⟨h1, h2, h3⟩ := Cx.R_arr.1 (OW_ro.1 h)
        have hix : i < x.length := h1.symm ▸ hi
        have i1 := ih .ro q (p ++ [Step.el i]) _ _ _ .ro z' (OW_ro.2 (h3 i _ (getD_nth (l := x) (S.zero t) hix))) hq hs' hn (fun b' q' hb' hno => by
          have := hkeep b' (Step.el i :: q') (by simpa using hb') (by rintro ⟨s, hs⟩; exact hno ⟨s, by simpa using hs⟩)
          simpa using this) (by simpa using hnew)
        have hlen : List.length (List.set x i z') = k := (List.length_set : List.length (List.set x i z') = List.length x).trans h1
        refine OW_ro.2 (Cx.R_arr.2 ⟨hlen, h2, fun j u hu => ?_⟩)
        by_cases hji : j = i
        · subst hji
          have hu' : u = z' := by
            have hat : nth (List.set x j z') j = some z' := nth_set_self hix
            rw [hat] at hu; exact (Option.some.inj hu).symm
          subst hu'
          exact OW_ro.1 i1
        · have hu' : nth x j = some u := by
            have : nth (List.set x i z') j = nth x j := nth_set_ne hji
            rw [← this]; exact hu
          exact (h3 j u hu').frame hZ hZw
      | _ => exact (hq : False).elim
  | _ =>
    intro m q p l cs x n z h hq hs hn hkeep hnew
    cases q with
    | nil =>
      cases hn
      simp only [Cx.setP] at hs
      split at hs
      · rename_i z' hz
        cases hs
        obtain ⟨e', rfl⟩ := cast_some hz
        subst e'
        simpa using hnew
      · cases hs
    | cons s q => cases s <;> exact (hq : False).elim
theorem OW_sub (ok : S.Ok) {own' : Nat → Option Own} {Z Z' : Nat → Prop} {r : Root} {t' : Ty} {m' : Mode} {y : S.den t'} (hZ : ∀ b, Z b → Z' b) {l' : Spot} {cs0 : List Value}
    (t : Ty) (m : Mode) (q p : Path) (l : Spot) (cs : List Value) (x : S.den t) (n : Mode) (z : S.den t)
    (h : S.OW w own Z r t m p cs x) (hq : S.okP t q x) (hs : S.setP t' m' y t m q x = some (n, z)) (hn : S.nav w t l cs q = some (l', cs0))
    (hk : ∀ b' q', own b' = some (r, some (p ++ q')) → (¬ ∃ s, q' = q ++ s) → own' b' = some (r, some (p ++ q')))
    (hy : S.OW w own' Z' r t' m' (p ++ q) cs0 y) : S.OW w own' Z' r t n p cs z :=
  OW_sub2 ok hZ (fun _ _ => rfl) t m q p l cs x n z h hq hs hn (fun b q h1 h2 => ⟨hk b q h1 h2, rfl⟩) hy
theorem look_setSlot (st : ST S) (s : Nat) (c : MV S.toNm) (i : Nat) : (st.setRoot (.slot s) c).look i = if i = s then .v c.t c.m c.x else st.look i := by
  simp only [St.setRoot]
  cases hs : st.vars.lookup s with
  | some y =>
    simp only [St.look, lookup_upd]
    by_cases hi : i = s
    · simp [hi]
    · simp [hi]
  | none =>
    simp only [St.look, lookup_upd]
    by_cases hi : i = s
    · subst hi; rw [hs]; simp
    · simp [hi]
theorem mems_setSlot (st : ST S) (s : Nat) (c : MV S.toNm) : (st.setRoot (.slot s) c).mems = st.mems := by
  simp only [St.setRoot]; split <;> rfl
theorem look_setMem (st : ST S) (k : Nat) (c : MV S.toNm) (i : Nat) : (st.setRoot (.mem k) c).look i = st.look i := rfl
theorem mems_setMem (st : ST S) (k : Nat) (c : MV S.toNm) (i : Nat) : (st.setRoot (.mem k) c).mems.lookup i = if i = k then some c else st.mems.lookup i := lookup_upd _ _ _ _
theorem root_killBy (st : ST S) (f : AV S → Bool) (hv : ∀ t m x, f (.v t m x) = false) (h0 : f .dead = false) (r : Root) : (st.killBy f).root r = st.root r := by
  cases r with
  | slot s =>
    simp only [St.root, look_killBy st f s h0]
    cases h : st.look s with
    | v t m x => simp [hv]
    | dead => simp [h0]
    | und => cases hf : f .und <;> rfl
    | tup t m x => cases hf : f (.tup t m x) <;> rfl
    | rp t x => cases hf : f (.rp t x) <;> rfl
    | ref r p => cases hf : f (.ref r p) <;> rfl
    | addr r p => cases hf : f (.addr r p) <;> rfl
    | fn g cs => cases hf : f (.fn g cs) <;> rfl
  | mem k => rfl
  | lim => rfl
theorem root_kill (st : ST S) (r r' : Root) : (st.kill r).root r' = st.root r' := root_killBy st _ (fun _ _ _ => rfl) rfl r'
theorem killT_slot (st : ST S) (s : Nat) : st.killT (.slot s) = st.kill (.slot s) := by
  have : (AVal.hangT (.slot s) : AV S → Bool) = AVal.hangs (.slot s) := by funext a; cases a <;> simp [AVal.hangT, AVal.hangs, Root.isSlot]
  unfold St.killT St.kill; rw [this]
theorem root_killT (st : ST S) (r r' : Root) : (st.killT r).root r' = st.root r' := root_killBy st _ (fun _ _ _ => rfl) rfl r'
theorem root_setRoot (st : ST S) (r : Root) (c : MV S.toNm) (r' : Root) (hr : r ≠ .lim) : (st.setRoot r c).root r' = if r' = r then some c else st.root r' := by
  cases r with
  | lim => exact absurd rfl hr
  | slot s =>
    cases r' with
    | slot s' =>
      simp only [St.root, look_setSlot]
      by_cases h : s' = s
      · subst h; simp
      · simp [h]
    | mem k => simp only [St.root, mems_setSlot]; simp
    | lim => simp [St.root]
  | mem k =>
    cases r' with
    | slot s' => simp only [St.root, look_setMem]; simp
    | mem k' =>
      simp only [St.root, mems_setMem]
      by_cases h : k' = k
      · subst h; simp
      · simp [h]
    | lim => simp [St.root]
theorem setAt_some {r : Root} {p : Path} {c : MV S.toNm} {st' : ST S} (h : st.setAt r p c = some st') :
    ∃ t m x n z, st.root r = some ⟨t, m, x⟩ ∧ S.setP c.t c.m c.x t m p x = some (n, z) ∧ st' = st.setRoot r ⟨t, n, z⟩ := by
  unfold St.setAt at h
  split at h
  · rename_i t m x e
    split at h
    · rename_i n z hs
      cases h
      exact ⟨t, m, x, n, z, e, hs, rfl⟩
    · cases h
  · cases h
theorem plain_nav : ∀ (t : Ty) (q : Path) (m : Mode) (x : S.den t) (c : MV S.toNm), q.plain = true → S.okP t q x → S.getP t m q x = some c →
    ∃ o, ∀ w l cs, ∃ cs', S.nav w t l cs q = some (l.map (fun x => (x.1, x.2 + o)), cs') := by
  intro t
  induction t with
  | slice e t ih =>
    intro q m x c hp hk hg
    cases q with
    | nil => exact ⟨0, fun w l cs => ⟨cs, by cases l <;> rfl⟩⟩
    | cons s q => cases s with
      | idx i => simp [plain_cons, Step.isIdx] at hp
      | _ => cases hg
  | pair a b iha ihb =>
    intro q m x c hp hk hg
    cases q with
    | nil => exact ⟨0, fun w l cs => ⟨cs, by cases l <;> rfl⟩⟩
    | cons s q => cases s with
      | fst =>
        obtain ⟨o, h⟩ := iha q m.fst x.1 c (by simpa [plain_cons, Step.isIdx] using hp) hk hg
        exact ⟨o, fun w l cs => h w l _⟩
      | snd =>
        obtain ⟨o, h⟩ := ihb q m.snd x.2 c (by simpa [plain_cons, Step.isIdx] using hp) hk hg
        refine ⟨S.size a + o, fun w l cs => ?_⟩
        obtain ⟨cs', h'⟩ := h w (l.map fun x => (x.1, x.2 + S.size a)) (cs.drop (S.size a))
        refine ⟨cs', ?_⟩
        simp only [Cx.nav]
        rw [h']
        cases l with
        | none => rfl
        | some l => simp [Nat.add_assoc]
      | _ => cases hg
  | agg t ih =>
    intro q m x c hp hk hg
    cases q with
    | nil => exact ⟨0, fun w l cs => ⟨cs, by cases l <;> rfl⟩⟩
    | cons s q => cases s with
      | inn =>
        obtain ⟨o, h⟩ := ih q m x c (by simpa [plain_cons, Step.isIdx] using hp) hk hg
        exact ⟨o, fun w l cs => h w l cs⟩
      | _ => cases hg
  | arr n t ih =>
    intro q m x c hp hk hg
    cases q with
    | nil => exact ⟨0, fun w l cs => ⟨cs, by cases l <;> rfl⟩⟩
    | cons s q => cases s with
      | el i =>
        have hi := hk.1
        have hg := getP_el hg
        obtain ⟨o, h⟩ := ih q m.elem _ c (by simpa [plain_cons, Step.isIdx] using hp) hk.2 hg
        refine ⟨i * S.size t + o, fun w l cs => ?_⟩
        obtain ⟨cs', h'⟩ := h w (l.map fun x => (x.1, x.2 + i * S.size t)) ((cs.drop (i * S.size t)).take (S.size t))
        refine ⟨cs', ?_⟩
        rw [nav_el_eq hi, h']
        cases l with
        | none => rfl
        | some l => simp [Nat.add_assoc]
      | _ => cases hg
  | _ =>
    intro q m x c hp hk hg
    cases q with
    | nil => exact ⟨0, fun w l cs => ⟨cs, by cases l <;> rfl⟩⟩
    | cons s q => cases s <;> cases hg
theorem plain_getP : ∀ (t : Ty) (q : Path) (m : Mode) (x : S.den t) (c : MV S.toNm), q.plain = true → S.getP t m q x = some c →
    ∀ m' x', ∃ m'' x'', S.getP t m' q x' = some ⟨c.t, m'', x''⟩ := by
  intro t
  induction t with
  | slice e t ih =>
    intro q m x c hp hg m' x'
    cases q with
    | nil => cases hg; exact ⟨m', x', getP_nil⟩
    | cons s q => cases s with
      | idx i => simp [plain_cons, Step.isIdx] at hp
      | _ => cases hg
  | pair a b iha ihb =>
    intro q m x c hp hg m' x'
    cases q with
    | nil => cases hg; exact ⟨m', x', getP_nil⟩
    | cons s q => cases s with
      | fst => exact iha q m.fst x.1 c (by simpa [plain_cons, Step.isIdx] using hp) hg m'.fst x'.1
      | snd => exact ihb q m.snd x.2 c (by simpa [plain_cons, Step.isIdx] using hp) hg m'.snd x'.2
      | _ => cases hg
  | agg t ih =>
    intro q m x c hp hg m' x'
    cases q with
    | nil => cases hg; exact ⟨m', x', getP_nil⟩
    | cons s q => cases s with
      | inn => exact ih q m x c (by simpa [plain_cons, Step.isIdx] using hp) hg m' x'
      | _ => cases hg
  | arr n t ih =>
    intro q m x c hp hg m' x'
    cases q with
    | nil => cases hg; exact ⟨m', x', getP_nil⟩
    | cons s q => cases s with
      | el i =>
        have hg := getP_el hg
        rw [getP_el_eq]
        exact ih q m.elem _ c (by simpa [plain_cons, Step.isIdx] using hp) hg m'.elem _
      | _ => cases hg
  | _ =>
    intro q m x c hp hg m' x'
    cases q with
    | nil => cases hg; exact ⟨m', x', getP_nil⟩
    | cons s q => cases s <;> cases hg
theorem Place.plain {own' : Nat → Option Own} {a' : Act} {w' : World} {st' : ST S} {r : Root} {q : Path} {b off : Nat} {cs' : List Value} {c : MV S.toNm}
    (h : Place st own a w r q (some (b, off)) cs' c) (hq : q.plain = true) {t : Ty} {m n : Mode} {x z : S.den t} (hr : st.root r = some ⟨t, m, x⟩) (hr' : st'.root r = some ⟨t, n, z⟩)
    (hroot : ∀ l cs, RootAt own a w r t l cs → ∃ cs1, RootAt own' a' w' r t l cs1) :
    ∃ cs'' c', Place st' own' a' w' r q (some (b, off)) cs'' c' := by
  obtain ⟨t0, m0, x0, l0, cs0, h1, h2, h3, h4, h5, h6⟩ := h
  rw [hr] at h1
  cases h1
  obtain ⟨cs1, hR⟩ := hroot _ _ h3
  obtain ⟨o, ho⟩ := plain_nav t q m x c hq h4 h6
  obtain ⟨d1, n1⟩ := ho w l0 cs0
  rw [h5] at n1
  obtain ⟨d2, n2⟩ := ho w' l0 cs1
  obtain ⟨m'', x'', hg⟩ := plain_getP t q m x c hq h6 n z
  have e : (l0.map fun x => (x.1, x.2 + o)) = some (b, off) := (congrArg Prod.fst (Option.some.inj n1)).symm
  rw [e] at n2
  refine ⟨d2, _, t, n, z, l0, cs1, hr', fun s hs => ?_, hR, okP_plain t q x z hq h4, n2, hg⟩
  subst hs
  exfalso
  have := nav_plain _ _ _ _ _ _ hq h5 h3.1
  cases this
theorem Place_own {own' : Nat → Option Own} {st' : ST S} {a' : Act} {r : Root} {p : Path} {l : Spot} {cs : List Value} {c : MV S.toNm}
    (h : Place st own a w r p l cs c) (hr : st'.root r = st.root r) (ha : ∀ s, r = .slot s → a'.tmps.getD s undef = a.tmps.getD s undef)
    (hm : ∀ k b, r = .mem k → own b = some (.mem k, none) → own' b = some (.mem k, none)) : Place st' own' a' w r p l cs c := by
  obtain ⟨t, m, x, l0, cs0, h1, h2, h3, h4, h5, h6⟩ := h
  refine ⟨t, m, x, l0, cs0, hr.trans h1, h2, ?_, h4, h5, h6⟩
  cases r with
  | slot s => exact ⟨h3.1, by rw [ha s rfl]; exact h3.2⟩
  | mem k =>
    obtain ⟨b, e, cl, f1, f2, f3, f4⟩ := h3
    exact ⟨b, e, cl, f1, hm k b rfl f2, f3, f4⟩
  | lim => exact h3
theorem root_OW (ok : S.Ok) (h : Rel g own st a w) {r : Root} {t : Ty} {m : Mode} {x : S.den t} {l : Spot} {cs : List Value} (h1 : st.root r = some ⟨t, m, x⟩) (h3 : RootAt own a w r t l cs) :
    S.OW w own (g.Z own w) r t m [] cs x := by
  cases r with
  | slot s =>
    have hv := h.vals s
    rw [root_slot h1] at hv
    obtain ⟨cs', e1, e2⟩ := hv
    have : cs' = cs := by
      have e3 := h3.2
      unfold VS at e1 e3
      cases ht : t.isAgg
      · rw [ht] at e1 e3; exact e1.trans e3.symm
      · rw [ht] at e1 e3; have := e1.symm.trans e3; simpa using this
    subst this; exact e2
  | lim => exact h3.elim
  | mem k =>
    obtain ⟨b, e, cells, g1, g2, g3, g4⟩ := h.mems k ⟨t, m, x⟩ h1
    obtain ⟨b', e', c', f1, f2, f3, f4⟩ := h3
    have := g4 b' f2
    subst this
    rw [g2] at f3; cases f3; subst f4; exact g3
theorem Rel.remode (ok : S.Ok) (h : Rel g own st a w) {own' : Nat → Option Own} {r : Root} {p : Path} {l : Spot} {cs : List Value} {c : MV S.toNm} {m' : Mode} {st' : ST S}
    (hp : Place st own a w r p l cs c) (hs : (st.killT r).setAt r p ⟨c.t, m', c.x⟩ = some st')
    (hown : ∀ b, own' b = own b ∨ ((∃ q, own b = some (r, some (p ++ q))) ∧ ∀ k, own' b ≠ some (.mem k, none)))
    (hdom : ∀ b, own b = none → own' b = none)
    (hnew : S.OW w own' (g.Z own' w) r c.t m' p cs c.x) : Rel g own' st' a w := by
  obtain ⟨t, m, x, l0, cs0, h1, h2, h3, h4, h5, h6⟩ := hp
  obtain ⟨t1, m1, x1, n, z, k1, k2, k3⟩ := setAt_some hs
  rw [root_killT, h1] at k1
  cases k1
  have hrl : r ≠ .lim := by rintro rfl; exact h3
  have hZ : ∀ b, g.Z own w b → g.Z own' w b := fun b hb => ⟨hb.1, hb.2.1, hdom b hb.2.2⟩
  have hO := root_OW ok h h1 h3
  have hO' : S.OW w own' (g.Z own' w) r t n [] cs0 z :=
    OW_sub ok hZ t m p [] l0 cs0 x n z hO h4 k2 h5 (fun b q hb hno => by
      rcases hown b with e | ⟨⟨q', e⟩, _⟩
      · rw [e]; exact hb
      · rw [e] at hb; exact absurd ⟨q', by simpa using hb.symm⟩ hno) (by simpa using hnew)
  have root' : st'.root r = some ⟨t, n, z⟩ := by rw [k3, root_setRoot _ _ _ _ hrl, if_pos rfl]
  have rootne : ∀ r', r' ≠ r → st'.root r' = st.root r' := fun r' hne => by rw [k3, root_setRoot _ _ _ _ hrl, if_neg hne, root_killT]
  have hmem : ∀ k b, own b = some (.mem k, none) → own' b = some (.mem k, none) := fun k b hb => by
    rcases hown b with e | ⟨⟨q', e⟩, _⟩
    · rw [e]; exact hb
    · rw [e] at hb; simp at hb
  have hmem' : ∀ k b, own' b = some (.mem k, none) → own b = some (.mem k, none) := fun k b hb => by
    rcases hown b with e | ⟨_, e⟩
    · rw [← e]; exact hb
    · exact absurd hb (e k)
  have hlook : ∀ i, (∀ s, r = .slot s → i ≠ s) → st'.look i = .dead ∨ (st'.look i = st.look i ∧ (st.look i).hangT r = false) := fun i hi => by
    have e : st'.look i = (st.killT r).look i := by
      rw [k3]
      cases r with
      | slot s => rw [look_setSlot, if_neg (hi s rfl)]
      | mem k => rfl
      | lim => exact absurd rfl hrl
    rw [e, St.killT, look_killBy _ _ _ rfl]
    cases hh : (st.look i).hangT r
    · exact .inr ⟨rfl, rfl⟩
    · exact .inl rfl
  refine ⟨h.os, h.tape, h.output, h.size, h.block, fun b hb => h.fresh b (fun e => hb (hdom b e)), fun i => ?_, fun k c' hk => ?_, h.defs, fun k b b' hp hb => h.pins k b b' hp (hmem' k b' hb)⟩
  · by_cases hi : ∃ s, r = .slot s ∧ i = s
    · obtain ⟨s, rfl, rfl⟩ := hi
      have : st'.look i = .v t n z := by rw [k3, look_setSlot, if_pos rfl]
      rw [this]
      exact ⟨cs0, h3.2, hO'⟩
    · have hi' : ∀ s, r = .slot s → i ≠ s := fun s hs e => hi ⟨s, hs, e⟩
      rcases hlook i hi' with e | ⟨e, hh⟩
      · rw [e]; trivial
      · rw [e]
        have hv := h.vals i
        generalize st.look i = A at *
        cases A with
        | dead => trivial
        | und => exact hv
        | v t' m'' y =>
          obtain ⟨cs', e1, e2⟩ := hv
          refine ⟨cs', e1, OW_frame hZ (fun _ _ => rfl) _ _ _ _ _ _ (fun b q hb => ⟨?_, rfl⟩) e2⟩
          rcases hown b with e3 | ⟨⟨q', e3⟩, _⟩
          · rw [e3]; exact hb
          · rw [e3] at hb
            have hb := (Prod.mk.inj (Option.some.inj hb)).1
            exact absurd rfl (hi' i hb)
        | tup t' m'' y =>
          obtain ⟨vs, e1, e2⟩ := hv
          exact ⟨vs, e1, TupR_frame hZ (fun _ _ => rfl) _ _ _ e2⟩
        | rp t' y =>
          obtain ⟨b, off, cs', e1, e2, e3, e4⟩ := hv
          exact ⟨b, off, cs', e1, hZ b e2, e3, e4.frame hZ (fun _ _ => rfl)⟩
        | ref r' p' =>
          obtain ⟨l1, cs1, c1, e1, e2⟩ := hv
          by_cases hne : r' = r
          · subst hne
            simp only [AVal.hangT, decide_true, Bool.true_and, Bool.or_eq_false_iff, Bool.not_eq_false'] at hh
            obtain ⟨hsl, hpl⟩ := hh
            obtain ⟨t9, m9, x9, l9, cs9, q1, q2, q3, q4, q5, q6⟩ := e1
            rw [h1] at q1
            cases q1
            obtain ⟨m'', x'', hg⟩ := plain_getP _ p' _ _ c1 hpl q6 n z
            refine ⟨l1, cs1, ⟨c1.t, m'', x''⟩, ⟨t, n, z, l9, cs9, root', fun s hs => (by rw [hs] at hsl; cases hsl), ?_, okP_plain _ p' _ z hpl q4, q5, hg⟩, e2⟩
            cases r' with
            | slot s => exact q3
            | mem k =>
              obtain ⟨b, e, cl, f1, f2, f3, f4⟩ := q3
              exact ⟨b, e, cl, f1, hmem k b f2, f3, f4⟩
            | lim => exact q3
          · exact ⟨l1, cs1, c1, Place_own e1 (rootne r' hne) (fun _ _ => rfl) (fun k b _ => hmem k b), e2⟩
        | addr r' p' =>
          obtain ⟨b, off, cs1, c1, e1, e2⟩ := hv
          by_cases hne : r' = r
          · subst hne
            have hpl : Path.plain p' = true := by simpa [AVal.hangT] using hh
            obtain ⟨cs2, c2, e3⟩ := e1.plain (own' := own') (a' := a) (w' := w) (st' := st') hpl h1 root' (fun l cs hR => ⟨cs, by
              cases r' with
              | slot s => exact hR
              | mem k =>
                obtain ⟨b, e, cl, f1, f2, f3, f4⟩ := hR
                exact ⟨b, e, cl, f1, hmem k b f2, f3, f4⟩
              | lim => exact hR⟩)
            exact ⟨b, off, cs2, c2, e3, e2⟩
          · exact ⟨b, off, cs1, c1, Place_own e1 (rootne r' hne) (fun _ _ => rfl) (fun k b _ => hmem k b), e2⟩
        | fn g' cs' =>
          obtain ⟨vs, f1, f2⟩ := hv
          refine ⟨vs, f1, f2.mono fun c _ v hc => ?_⟩
          cases c with
          | d t' y =>
            obtain ⟨b, off, cs', e1, e2, e3, e4⟩ := hc
            exact ⟨b, off, cs', e1, hZ b e2, e3, e4.frame hZ (fun _ _ => rfl)⟩
          | m k =>
            obtain ⟨b, off, cs1, c1, e1, e2⟩ := hc
            by_cases hne : Root.mem k = r
            · subst hne
              obtain ⟨cs2, c2, e3⟩ := e1.plain (own' := own') (a' := a) (w' := w) (st' := st') rfl h1 root' (fun l cs hR => ⟨cs, by
                obtain ⟨b, e, cl, f1, f2, f3, f4⟩ := hR
                exact ⟨b, e, cl, f1, hmem k b f2, f3, f4⟩⟩)
              exact ⟨b, off, cs2, c2, e3, e2⟩
            · exact ⟨b, off, cs1, c1, Place_own e1 (rootne _ hne) (fun _ _ => rfl) (fun k b _ => hmem k b), e2⟩
  · by_cases hk' : r = .mem k
    · subst hk'
      have : c' = ⟨t, n, z⟩ := by
        have hk : st'.root (.mem k) = some c' := hk
        rw [root'] at hk; exact (Option.some.inj hk).symm
      subst this
      obtain ⟨b, e, cells, g1, g2, g3, g4⟩ := h.mems k _ h1
      obtain ⟨b', e', cl, f1, f2, f3, f4⟩ := h3
      have := g4 b' f2
      subst this
      rw [g2] at f3; cases f3; subst f4
      exact ⟨b', e, cells, hmem k b' g1, g2, hO', fun b'' hb'' => g4 b'' (hmem' k b'' hb'')⟩
    · have hk : st'.root (.mem k) = some c' := hk
      rw [rootne _ (Ne.symm hk')] at hk
      obtain ⟨b, e, cells, g1, g2, g3, g4⟩ := h.mems k _ hk
      refine ⟨b, e, cells, hmem k b g1, g2, OW_frame hZ (fun _ _ => rfl) _ _ _ _ _ _ (fun b q hb => ⟨?_, rfl⟩) g3, fun b'' hb'' => g4 b'' (hmem' k b'' hb'')⟩
      rcases hown b with e3 | ⟨⟨q', e3⟩, _⟩
      · rw [e3]; exact hb
      · rw [e3] at hb
        exact absurd (Prod.mk.inj (Option.some.inj hb)).1 hk'
open Classical in
noncomputable def relab (own : Nat → Option Own) (r : Root) (p : Path) (r' : Root) (p' : Path) : Nat → Option Own := fun b =>
  if h : ∃ s, own b = some (r, some (p ++ s)) then some (r', some (p' ++ h.choose)) else own b
theorem relab_at {own : Nat → Option Own} {r : Root} {p : Path} {r' : Root} {p' : Path} {b : Nat} {s : Path} (h : own b = some (r, some (p ++ s))) : relab own r p r' p' b = some (r', some (p' ++ s)) := by
  have he : ∃ s, own b = some (r, some (p ++ s)) := ⟨s, h⟩
  unfold relab
  rw [dif_pos he]
  have hs : he.choose = s := by
    have := he.choose_spec.symm.trans h
    simpa using this
  rw [hs]
theorem relab_ne {own : Nat → Option Own} {r : Root} {p : Path} {r' : Root} {p' : Path} {b : Nat} (h : ¬ ∃ s, own b = some (r, some (p ++ s))) : relab own r p r' p' b = own b := by
  unfold relab; rw [dif_neg h]
open Classical in
noncomputable def unlab (own : Nat → Option Own) (r : Root) (p : Path) : Nat → Option Own := fun b =>
  if ∃ s, own b = some (r, some (p ++ s)) then none else own b
theorem unlab_at {own : Nat → Option Own} {r : Root} {p : Path} {b : Nat} (h : ∃ s, own b = some (r, some (p ++ s))) : unlab own r p b = none := by unfold unlab; rw [if_pos h]
theorem unlab_ne {own : Nat → Option Own} {r : Root} {p : Path} {b : Nat} (h : ¬ ∃ s, own b = some (r, some (p ++ s))) : unlab own r p b = own b := by unfold unlab; rw [if_neg h]
structure Lasts (own own' : Nat → Option Own) : Prop where
  lim : ∀ b q, own b = some (.lim, q) → own' b = some (.lim, q)
  none : ∀ b, own b = none → own' b = none
theorem Lasts.refl {own : Nat → Option Own} : Lasts own own := ⟨fun _ _ h => h, fun _ h => h⟩
theorem Lasts.trans {own own' own'' : Nat → Option Own} (h : Lasts own own') (h' : Lasts own' own'') : Lasts own own'' := ⟨fun b q e => h'.lim b q (h.lim b q e), fun b e => h'.none b (h.none b e)⟩
theorem Lasts.Z {own' : Nat → Option Own} (h : Lasts own own') {b : Nat} (hb : g.Z own w b) : g.Z own' w b := ⟨hb.1, hb.2.1, h.none b hb.2.2⟩
theorem place_take (ok : S.Ok) (h : Rel g own st a w) {r : Root} {p : Path} {l : Spot} {cs : List Value} {c : MV S.toNm} {st' : ST S} (hp : Place st own a w r p l cs c)
    (hs : (st.killT r).setAt r p ⟨c.t, .dd, c.x⟩ = some st') (p0 : Path) :
    ∃ own', Rel g own' st' a w ∧ S.OW w own' (g.Z own' w) .lim c.t c.m p0 cs c.x ∧ Lasts own own' := by
  have hrl : r ≠ .lim := by rintro rfl; obtain ⟨_, _, _, _, _, _, _, h3, _⟩ := hp; exact h3
  refine ⟨relab own r p .lim p0, ?_, ?_, ?_, ?_⟩
  · refine h.remode ok hp hs (fun b => ?_) (fun b hb => ?_) (OW_dd.2 (hp.cells ok h).1)
    · by_cases hb : ∃ s, own b = some (r, some (p ++ s))
      · obtain ⟨s, hb⟩ := hb
        exact .inr ⟨⟨s, hb⟩, fun k => by rw [relab_at hb]; simp⟩
      · exact .inl (relab_ne hb)
    · rw [relab_ne (by rintro ⟨s, e⟩; rw [hb] at e; cases e)]; exact hb
  · by_cases hm : c.m = .dd
    · rw [hm]; exact OW_dd.2 (hp.cells ok h).1
    · exact OW_frame (fun b hb => ⟨hb.1, hb.2.1, by rw [relab_ne (by rintro ⟨s, e⟩; rw [hb.2.2] at e; cases e)]; exact hb.2.2⟩) (fun _ _ => rfl) _ _ _ _ _ _ (fun b q hb => ⟨relab_at hb, rfl⟩) (place_OW ok h hp hm)
  · intro b q hb
    rw [relab_ne (by rintro ⟨s, e⟩; rw [hb] at e; exact hrl (Prod.mk.inj (Option.some.inj e)).1.symm)]; exact hb
  · intro b hb
    rw [relab_ne (by rintro ⟨s, e⟩; rw [hb] at e; cases e)]; exact hb
theorem place_frz (ok : S.Ok) (h : Rel g own st a w) {r : Root} {p : Path} {l : Spot} {cs : List Value} {c : MV S.toNm} {st' : ST S} (hp : Place st own a w r p l cs c) (hl : c.m.live = true)
    (hs : (st.killT r).setAt r p ⟨c.t, .ro, c.x⟩ = some st') :
    ∃ own', Rel g own' st' a w ∧ S.R w (g.Z own' w) c.t cs c.x ∧ Lasts own own' := by
  have hrl : r ≠ .lim := by rintro rfl; obtain ⟨_, _, _, _, _, _, _, h3, _⟩ := hp; exact h3
  have hR : S.R w (g.Z (unlab own r p) w) c.t cs c.x :=
    OW_R (fun b hb => ⟨hb.1, hb.2.1, by rw [unlab_ne (by rintro ⟨s, e⟩; rw [hb.2.2] at e; cases e)]; exact hb.2.2⟩) _ _ _ _ _ hl
      (fun b q hb => ⟨.inr (h.fresh b (by rw [hb]; simp)).1, (h.fresh b (by rw [hb]; simp)).2, unlab_at ⟨q, hb⟩⟩) (place_OW ok h hp (live_ne hl))
  refine ⟨unlab own r p, ?_, hR, ?_, ?_⟩
  · refine h.remode ok hp hs (fun b => ?_) (fun b hb => ?_) (OW_ro.2 hR)
    · by_cases hb : ∃ s, own b = some (r, some (p ++ s))
      · obtain ⟨s, hb⟩ := hb
        exact .inr ⟨⟨s, hb⟩, fun k => by rw [unlab_at ⟨s, hb⟩]; simp⟩
      · exact .inl (unlab_ne hb)
    · rw [unlab_ne (by rintro ⟨s, e⟩; rw [hb] at e; cases e)]; exact hb
  · intro b q hb
    rw [unlab_ne (by rintro ⟨s, e⟩; rw [hb] at e; exact hrl (Prod.mk.inj (Option.some.inj e)).1.symm)]; exact hb
  · intro b hb
    rw [unlab_ne (by rintro ⟨s, e⟩; rw [hb] at e; cases e)]; exact hb
theorem place_takeS (ok : S.Ok) (h : Rel g own st a w) {s : Nat} {p : Path} {l : Spot} {cs : List Value} {c : MV S.toNm} {st' : ST S} (hp : Place st own a w (.slot s) p l cs c)
    (hs : (st.kill (.slot s)).setAt (.slot s) p ⟨c.t, .dd, c.x⟩ = some st') (p0 : Path) :
    ∃ own', Rel g own' st' a w ∧ S.OW w own' (g.Z own' w) .lim c.t c.m p0 cs c.x ∧ Lasts own own' := place_take ok h hp (by rw [killT_slot]; exact hs) p0
theorem place_frzS (ok : S.Ok) (h : Rel g own st a w) {s : Nat} {p : Path} {l : Spot} {cs : List Value} {c : MV S.toNm} {st' : ST S} (hp : Place st own a w (.slot s) p l cs c) (hl : c.m.live = true)
    (hs : (st.kill (.slot s)).setAt (.slot s) p ⟨c.t, .ro, c.x⟩ = some st') :
    ∃ own', Rel g own' st' a w ∧ S.R w (g.Z own' w) c.t cs c.x ∧ Lasts own own' := place_frz ok h hp hl (by rw [killT_slot]; exact hs)
end
end Go.Proofs.Ytdnkjfmneppkoaa.Vm
namespace Go.Proofs.Ytdnkjfmneppkoaa.Vm
open Go Go.RowKit
set_option linter.unusedVariables false
section
variable {S : Cx} {α : Type} {g : Gl S} {own : Nat → Option Own} {st : ST S} {a : Act} {w : World}
theorem setAt_nil {r : Root} {t : Ty} {m m' : Mode} {x x' : S.den t} (h : st.root r = some ⟨t, m, x⟩) : st.setAt r [] ⟨t, m', x'⟩ = some (st.setRoot r ⟨t, m', x'⟩) := by
  unfold St.setAt
  rw [h]
  have : S.setP t m' x' t m [] x = some (m', x') := by cases t <;> simp only [Cx.setP, cast_self]
  simp only [this]
open Classical in
noncomputable def unmem (own : Nat → Option Own) (k : Nat) : Nat → Option Own := fun b => if ∃ q, own b = some (.mem k, q) then none else own b
theorem unmem_at {own : Nat → Option Own} {k b : Nat} (h : ∃ q, own b = some (.mem k, q)) : unmem own k b = none := by unfold unmem; rw [if_pos h]
theorem unmem_ne {own : Nat → Option Own} {k b : Nat} (h : ¬ ∃ q, own b = some (.mem k, q)) : unmem own k b = own b := by unfold unmem; rw [if_neg h]
theorem unmem_none {own : Nat → Option Own} {k b : Nat} (h : own b = none) : unmem own k b = none := by
  rw [unmem_ne (by rintro ⟨q, e⟩; rw [h] at e; cases e)]; exact h
theorem unmem_keep {own : Nat → Option Own} {k b : Nat} {r : Root} {q : Option Path} (h : own b = some (r, q)) (hr : r ≠ .mem k) : unmem own k b = some (r, q) := by
  rw [unmem_ne (by rintro ⟨q', e⟩; rw [h] at e; exact hr (Prod.mk.inj (Option.some.inj e)).1)]; exact h
theorem unmem_inv {own : Nat → Option Own} {k b : Nat} {r : Root} {q : Option Path} (h : unmem own k b = some (r, q)) : own b = some (r, q) ∧ r ≠ .mem k := by
  by_cases he : ∃ q, own b = some (.mem k, q)
  · rw [unmem_at he] at h; cases h
  · rw [unmem_ne he] at h
    exact ⟨h, fun e => he ⟨q, by rw [h, e]⟩⟩
theorem lookup_less {β : Type} : ∀ (l : List (Nat × β)) (k i : Nat), (l.filter fun p => !(p.1 == k)).lookup i = if i = k then none else l.lookup i
  | [], k, i => by simp
  | (j, x) :: l, k, i => by
    have ih := lookup_less l k i
    by_cases hjk : j = k
    · subst hjk
      rw [List.filter_cons_of_neg (by simp), ih, List.lookup_cons]
      by_cases hi : i = j
      · simp [hi]
      · rw [if_neg hi]; have : (i == j) = false := by simpa using hi
        rw [this]; simp [hi]
    · rw [List.filter_cons_of_pos (by simpa using hjk), List.lookup_cons, List.lookup_cons, ih]
      by_cases hi : i = j
      · subst hi; simp [hjk]
      · have : (i == j) = false := by simpa using hi
        rw [this]
theorem ptrOf_ok (ok : S.Ok) (h : Rel g own st a w) {A : AV S} {v : Value} {i : Nat} {want : Ty} {c : MV S.toNm} {st' : ST S} (hA : TR g st own a w i A v) (hc : st.ptrOf A want = some (c, st')) :
    ∃ own', Rel g own' st' a w ∧ VS c.t v [v] ∧ c.m = .ro ∧ S.R w (g.Z own' w) c.t [v] c.x ∧ Lasts own own' := by
  unfold St.ptrOf at hc
  split at hc
  · rename_i n
    split at hc
    · split at hc
      · rename_i k
        split at hc
        · split at hc
          · rename_i t m x hk
            split at hc
            · rename_i hl
              split at hc
              · rename_i y hy
                cases hc
                obtain ⟨ht, rfl⟩ := cast_some hy
                subst ht
                obtain ⟨b, off, cs', c', hp, rfl⟩ := hA
                obtain ⟨t0, m0, x0, l0, cs0, h1, h2, h3, h4, h5, h6⟩ := hp
                obtain ⟨b0, e0, cl, f1, f2, f3, f4⟩ := h3
                rw [nav_nil] at h5
                have e5 := congrArg Prod.fst (Option.some.inj h5)
                rw [f1] at e5
                cases e5
                obtain ⟨b1, e1, cells, g1, g2, g3, g4⟩ := h.mems k _ hk
                have hbb := g4 b f2
                subst hbb
                have hZ : ∀ b', g.Z own w b' → g.Z (unmem own k) w b' := fun b' hb => ⟨hb.1, hb.2.1, unmem_none hb.2.2⟩
                have hR : S.R w (g.Z (unmem own k) w) (S.body n) cells.toList x :=
                  OW_R hZ _ _ _ _ _ hl (fun b' q hb => ⟨.inr (h.fresh b' (by rw [hb]; simp)).1, (h.fresh b' (by rw [hb]; simp)).2, unmem_at ⟨_, hb⟩⟩) g3
                have hb0 : g.Z (unmem own k) w b := ⟨.inr (h.fresh b (by rw [g1]; simp)).1, (h.fresh b (by rw [g1]; simp)).2, unmem_at ⟨_, g1⟩⟩
                have hlen : cells.toList.length = S.size (S.body n) := OW_len ok _ _ _ _ _ g3
                refine ⟨unmem own k, ?_, rfl, rfl, Cx.R_ptr.2 (.inr ⟨b, _, cells.toList, rfl, rfl, hb0, ?_, by rw [ok.2.1]; exact hR, cells, _, g2⟩), ⟨fun b' q hb' => unmem_keep hb' (by simp), fun b' hb' => unmem_none hb'⟩⟩
                · have hlook : ∀ i, (st.less k).look i = .dead ∨ ((st.less k).look i = st.look i ∧ (st.look i).rooted (.mem k) = false) := fun i => by
                    have e : (st.less k).look i = (st.drop (.mem k)).look i := rfl
                    rw [e, St.drop, look_killBy _ _ _ rfl]
                    cases hh : (st.look i).rooted (.mem k)
                    · exact .inr ⟨rfl, rfl⟩
                    · exact .inl rfl
                  have hroot : ∀ r, r ≠ .mem k → (st.less k).root r = st.root r := fun r hr => by
                    cases r with
                    | slot s =>
                      have : (st.less k).root (.slot s) = (st.drop (.mem k)).root (.slot s) := rfl
                      rw [this]; exact root_killBy st _ (fun _ _ _ => rfl) rfl _
                    | mem k' =>
                      have hk' : k' ≠ k := fun e => hr (by rw [e])
                      simp only [St.root, St.less, lookup_less, if_neg hk']
                    | lim => rfl
                  have hplace : ∀ {r p l cs' c'}, r ≠ .mem k → Place st own a w r p l cs' c' → Place (st.less k) (unmem own k) a w r p l cs' c' := fun hr hp =>
                    Place_own hp (hroot _ hr) (fun _ _ => rfl) (fun k' b' he hb' => unmem_keep hb' (by rw [← he]; exact hr))
                  refine ⟨h.os, h.tape, h.output, h.size, h.block, fun b' hb' => h.fresh b' (fun e => hb' (unmem_none e)), fun i => ?_, fun k' c' hk' => ?_, h.defs, fun k' b1 b2 hp hb2 => h.pins k' b1 b2 hp (unmem_inv hb2).1⟩
                  · rcases hlook i with e | ⟨e, hr⟩
                    · rw [e]; trivial
                    · rw [e]
                      have hv := h.vals i
                      generalize st.look i = A at *
                      cases A with
                      | dead => trivial
                      | und => exact hv
                      | v t m y =>
                        obtain ⟨cs', e1, e2⟩ := hv
                        exact ⟨cs', e1, OW_frame hZ (fun _ _ => rfl) _ _ _ _ _ _ (fun b' q hb' => ⟨unmem_keep hb' (by simp), rfl⟩) e2⟩
                      | tup t m y => obtain ⟨vs, e1, e2⟩ := hv; exact ⟨vs, e1, TupR_frame hZ (fun _ _ => rfl) _ _ _ e2⟩
                      | rp t y =>
                        obtain ⟨b', off', cs', e1, e2, e3, e4⟩ := hv
                        exact ⟨b', off', cs', e1, hZ b' e2, e3, e4.frame hZ (fun _ _ => rfl)⟩
                      | ref r p =>
                        obtain ⟨l, cs', c', e1, e2⟩ := hv
                        exact ⟨l, cs', c', hplace (fun e => by subst e; simp [AVal.rooted] at hr) e1, e2⟩
                      | addr r p =>
                        obtain ⟨b', off', cs', c', e1, e2⟩ := hv
                        exact ⟨b', off', cs', c', hplace (fun e => by subst e; simp [AVal.rooted] at hr) e1, e2⟩
                      | fn g' cs' =>
                        obtain ⟨vs, f1, f2⟩ := hv
                        refine ⟨vs, f1, f2.mono fun c hcm v hc => ?_⟩
                        cases c with
                        | d t' y =>
                          obtain ⟨b', off', cs', e1, e2, e3, e4⟩ := hc
                          exact ⟨b', off', cs', e1, hZ b' e2, e3, e4.frame hZ (fun _ _ => rfl)⟩
                        | m k' =>
                          obtain ⟨b', off', cs', c', e1, e2⟩ := hc
                          exact ⟨b', off', cs', c', hplace (cap_rooted hr hcm) e1, e2⟩
                  · have hkk : k' ≠ k := fun e => by subst e; simp [St.less, lookup_less] at hk'
                    have hk'' : st.mems.lookup k' = some c' := by simpa [St.less, lookup_less, hkk] using hk'
                    obtain ⟨b', e', cells', g1', g2', g3', g4'⟩ := h.mems k' c' hk''
                    have hne : Root.mem k' ≠ .mem k := by simpa using hkk
                    exact ⟨b', e', cells', unmem_keep g1' hne, g2', OW_frame hZ (fun _ _ => rfl) _ _ _ _ _ _ (fun b'' q hb'' => ⟨unmem_keep hb'' hne, rfl⟩) g3', fun b'' hb'' => g4' b'' (unmem_inv hb'').1⟩
                · unfold cellsAt
                  rw [g2]
                  simp only
                  have hsz : cells.toList.length = cells.size := Array.length_toList
                  rw [ok.1, if_pos (by omega), List.drop_zero, List.take_of_length_le (by omega)]
              · cases hc
            · cases hc
          · cases hc
        · cases hc
      · cases hc
    · cases hc
  · cases hc
theorem lookup_mapv {β γ : Type} (f : β → γ) (l : List (Nat × β)) (i : Nat) : (l.map fun p => (p.1, f p.2)).lookup i = (l.lookup i).map f := by
  induction l with
  | nil => rfl
  | cons y l ih =>
    obtain ⟨k, b⟩ := y
    simp only [List.map_cons, List.lookup_cons]
    cases i == k
    · exact ih
    · rfl
theorem look_lessR (st : ST S) (k : Nat) (t : Ty) (x : S.den t) (i : Nat) : (st.lessR k t x).look i = AVal.boxed k t x (st.look i) := by
  simp only [St.look, St.lessR, lookup_mapv]
  cases st.vars.lookup i with
  | some a => simp
  | none =>
    simp only [Option.map_none]
    cases st.scr.lookup i <;> rfl
theorem root_lessR (st : ST S) (k : Nat) (t : Ty) (x : S.den t) (r : Root) (hr : r ≠ .mem k) : (st.lessR k t x).root r = st.root r := by
  cases r with
  | slot s =>
    simp only [St.root, look_lessR]
    cases st.look s with
    | addr r p =>
      simp only [AVal.boxed]
      cases decide (r = .mem k) with
      | false => rfl
      | true => cases p <;> rfl
    | ref r p =>
      simp only [AVal.boxed]
      cases decide (r = .mem k) <;> rfl
    | _ => rfl
  | mem k' =>
    have hk' : k' ≠ k := fun e => hr (by rw [e])
    simp only [St.root, St.lessR, lookup_less, if_neg hk']
  | lim => rfl
theorem boxOf_ok (ok : S.Ok) (h : Rel g own st a w) {k : Nat} {t : Ty} {m : Mode} {x : S.den t} (hk : st.mems.lookup k = some ⟨t, m, x⟩) (hl : m.live = true) {i : Nat} {v : Value} (hA : TR g st own a w i (.addr (.mem k) []) v) :
    ∃ own', Rel g own' (st.lessR k t x) a w ∧ S.R w (g.Z own' w) (.box t) [v] x ∧ Lasts own own' := by
  obtain ⟨b1, e1, cells, g1, g2, g3, g4⟩ := h.mems k _ hk
  have addr_at : ∀ {i : Nat} {v : Value}, TR g st own a w i (.addr (.mem k) []) v → v = .pointer (some ⟨b1, 0, none⟩) := by
    intro i v hA
    obtain ⟨b, off, cs', c', hp, rfl⟩ := hA
    obtain ⟨t0, m0, x0, l0, cs0, h1, h2, h3, h4, h5, h6⟩ := hp
    obtain ⟨b0, e0, cl, f1, f2, f3, f4⟩ := h3
    rw [nav_nil] at h5
    have e5 := congrArg Prod.fst (Option.some.inj h5)
    rw [f1] at e5
    cases e5
    rw [g4 b f2]
  have hv := addr_at hA
  subst hv
  have hZ : ∀ b', g.Z own w b' → g.Z (unmem own k) w b' := fun b' hb => ⟨hb.1, hb.2.1, unmem_none hb.2.2⟩
  have hR : S.R w (g.Z (unmem own k) w) t cells.toList x :=
    OW_R hZ _ _ _ _ _ hl (fun b' q hb => ⟨.inr (h.fresh b' (by rw [hb]; simp)).1, (h.fresh b' (by rw [hb]; simp)).2, unmem_at ⟨_, hb⟩⟩) g3
  have hb0 : g.Z (unmem own k) w b1 := ⟨.inr (h.fresh b1 (by rw [g1]; simp)).1, (h.fresh b1 (by rw [g1]; simp)).2, unmem_at ⟨_, g1⟩⟩
  have hlen : cells.toList.length = S.size t := OW_len ok _ _ _ _ _ g3
  have hcell : cellsAt w b1 0 (S.size t) = some cells.toList := by
    unfold cellsAt
    rw [g2]
    simp only
    have hsz : cells.toList.length = cells.size := Array.length_toList
    rw [if_pos (by omega), List.drop_zero, List.take_of_length_le (by omega)]
  have hplace : ∀ {r p l cs' c'}, r ≠ .mem k → Place st own a w r p l cs' c' → Place (st.lessR k t x) (unmem own k) a w r p l cs' c' := fun hr hp =>
    Place_own hp (root_lessR st k t x _ hr) (fun _ _ => rfl) (fun k' b' he hb' => unmem_keep hb' (by rw [← he]; exact hr))
  refine ⟨unmem own k, ⟨h.os, h.tape, h.output, h.size, h.block, fun b' hb' => h.fresh b' (fun e => hb' (unmem_none e)), fun j => ?_, fun k' c' hk' => ?_, h.defs, fun k' b1 b2 hp hb2 => h.pins k' b1 b2 hp (unmem_inv hb2).1⟩,
    Cx.R_box.2 ⟨b1, 0, cells.toList, rfl, hb0, hcell, hR⟩, ⟨fun b' q hb' => unmem_keep hb' (by simp), fun b' hb' => unmem_none hb'⟩⟩
  · rw [look_lessR]
    have hv := h.vals j
    generalize st.look j = A at *
    cases A with
    | dead => trivial
    | und => exact hv
    | v t m y =>
      obtain ⟨cs', e1, e2⟩ := hv
      exact ⟨cs', e1, OW_frame hZ (fun _ _ => rfl) _ _ _ _ _ _ (fun b' q hb' => ⟨unmem_keep hb' (by simp), rfl⟩) e2⟩
    | tup t m y => obtain ⟨vs, e1, e2⟩ := hv; exact ⟨vs, e1, TupR_frame hZ (fun _ _ => rfl) _ _ _ e2⟩
    | rp t y =>
      obtain ⟨b', off', cs', e1, e2, e3, e4⟩ := hv
      exact ⟨b', off', cs', e1, hZ b' e2, e3, e4.frame hZ (fun _ _ => rfl)⟩
    | ref r p =>
      simp only [AVal.boxed]
      split
      · trivial
      · rename_i hr
        obtain ⟨l, cs', c', e1, e2⟩ := hv
        exact ⟨l, cs', c', hplace (of_decide_eq_false hr) e1, e2⟩
    | addr r p =>
      simp only [AVal.boxed]
      split
      · rename_i hr
        have hr := of_decide_eq_true hr
        subst hr
        split
        · exact ⟨b1, 0, cells.toList, addr_at hv, hb0, hcell, hR⟩
        · trivial
      · rename_i hr
        obtain ⟨b', off', cs', c', e1, e2⟩ := hv
        exact ⟨b', off', cs', c', hplace (of_decide_eq_false hr) e1, e2⟩
    | fn g' cs' =>
      obtain ⟨vs, f1, f2⟩ := hv
      refine ⟨vs, f1, f2.map _ fun c hcm v hc => ?_⟩
      cases c with
      | d t' y =>
        obtain ⟨b', off', cs', e1, e2, e3, e4⟩ := hc
        exact ⟨b', off', cs', e1, hZ b' e2, e3, e4.frame hZ (fun _ _ => rfl)⟩
      | m k' =>
        simp only [Cap.boxed]
        split
        · rename_i hk'
          have hk' := of_decide_eq_true hk'
          subst hk'
          have hv : TR g st own a w 0 (.addr (.mem k') []) v := hc
          exact ⟨b1, 0, cells.toList, addr_at hv, hb0, hcell, hR⟩
        · rename_i hk'
          have hk' := of_decide_eq_false hk'
          obtain ⟨b', off', cs', c', e1, e2⟩ := hc
          exact ⟨b', off', cs', c', hplace (by simpa using hk') e1, e2⟩
  · have hkk : k' ≠ k := fun e => by subst e; simp [St.lessR, lookup_less] at hk'
    have hk'' : st.mems.lookup k' = some c' := by simpa [St.lessR, lookup_less, hkk] using hk'
    obtain ⟨b', e', cells', g1', g2', g3', g4'⟩ := h.mems k' c' hk''
    have hne : Root.mem k' ≠ .mem k := by simpa using hkk
    exact ⟨b', e', cells', unmem_keep g1' hne, g2', OW_frame hZ (fun _ _ => rfl) _ _ _ _ _ _ (fun b'' q hb'' => ⟨unmem_keep hb'' hne, rfl⟩) g3', fun b'' hb'' => g4' b'' (unmem_inv hb'').1⟩
theorem capOne_ok (ok : S.Ok) (h : Rel g own st a w) {x : Operand} {c : MV S.toNm} {st' : ST S} (hc : capOne st x = some (c, st')) :
    ∃ own', Rel g own' st' a w ∧ S.R w (g.Z own' w) c.t [a.eval x] c.x ∧ (∃ t, c.t = .box t) ∧ Lasts own own' := by
  unfold capOne at hc
  split at hc
  · rename_i s
    have hv := h.vals s
    split at hc
    · rename_i t y e
      cases hc
      rw [e] at hv
      obtain ⟨b, off, cs, e1, e2, e3, e4⟩ := hv
      exact ⟨own, h, Cx.R_box.2 ⟨b, off, cs, by show [a.tmps.getD s undef] = _; rw [e1], e2, e3, e4⟩, ⟨t, rfl⟩, .refl⟩
    · rename_i r p e
      split at hc
      · rename_i k
        split at hc
        · split at hc
          · rename_i t m y hk
            split at hc
            · rename_i hl
              cases hc
              rw [e] at hv
              obtain ⟨own', h1, h2, h3⟩ := boxOf_ok ok h hk hl hv
              exact ⟨own', h1, h2, ⟨t, rfl⟩, h3⟩
            · cases hc
          · cases hc
        · cases hc
      · cases hc
    · cases hc
  · cases hc
theorem capGo_ok (ok : S.Ok) : ∀ (xs : List Operand) (own : Nat → Option Own) (st st' : ST S) (c : MV S.toNm), Rel g own st a w → capGo xs st = some (c, st') →
    ∃ own', Rel g own' st' a w ∧ S.R w (g.Z own' w) c.t (xs.map a.eval) c.x ∧ Lasts own own'
  | [], own, st, st', c, h, hc => by
    cases hc
    exact ⟨own, h, Cx.R_unit.2 rfl, .refl⟩
  | x :: xs, own, st, st', c, h, hc => by
    simp only [capGo] at hc
    split at hc
    · rename_i c1 st1 h1
      split at hc
      · rename_i c2 st2 h2
        cases hc
        obtain ⟨own1, k1, k2, ⟨t, k3⟩, k4⟩ := capOne_ok ok h h1
        obtain ⟨own2, j1, j2, j3⟩ := capGo_ok ok xs own1 st1 _ c2 k1 h2
        exact ⟨own2, j1, Cx.R_pair.2 ⟨[a.eval x], xs.map a.eval, rfl, by rw [k3]; rfl, k2.frame (fun b hb => j3.Z hb) (fun _ _ => rfl), j2⟩, k4.trans j3⟩
      · cases hc
    · cases hc
theorem capFrz_ok (ok : S.Ok) : ∀ (bs : List Bool) (xs : List Operand) (own : Nat → Option Own) (st st' : ST S), Rel g own st a w → capFrz bs xs st = some st' → ∃ own', Rel g own' st' a w
  | [], xs, own, st, st', h, hc => by
    have : st = st' := by cases xs <;> (simp only [capFrz, Option.some.injEq] at hc; exact hc)
    subst this; exact ⟨own, h⟩
  | _ :: _, [], own, st, st', h, hc => by
    simp only [capFrz, Option.some.injEq] at hc
    subst hc; exact ⟨own, h⟩
  | true :: bs, x :: xs, own, st, st', h, hc => capFrz_ok ok bs xs own st st' h hc
  | false :: bs, x :: xs, own, st, st', h, hc => by
    simp only [capFrz] at hc
    split at hc
    · rename_i c st1 h1
      obtain ⟨own1, k1, _⟩ := capOne_ok ok h h1
      exact capFrz_ok ok bs xs own1 st1 st' k1 hc
    · cases hc
theorem capsAt_ok (h : Rel g own st a w) : ∀ (xs : List Operand) (cs : List (Cap S.toNm)), capsAt st xs = some cs → CapsR g st own a w cs (xs.map a.eval)
  | [], cs, hc => by cases hc; trivial
  | x :: xs, cs, hc => by
    simp only [capsAt] at hc
    split at hc
    · rename_i c cs' h1 h2
      cases hc
      refine ⟨?_, capsAt_ok h xs cs' h2⟩
      unfold capsAt.capAt at h1
      split at h1
      · rename_i s
        have hv := h.vals s
        split at h1
        · rename_i t y e
          cases h1
          rw [e] at hv; exact hv
        · rename_i rt p e
          split at h1
          · split at h1
            · cases h1
              rw [e] at hv; exact hv
            · cases h1
          · cases h1
        · cases h1
      · cases h1
    · cases hc
theorem ptrAt_ok (ok : S.Ok) {E : Env S} (h : Rel g own st a w) {A : AV S} {v : Value} {i ty : Nat} {c : MV S.toNm} {st' : ST S} (hA : TR g st own a w i A v) (hc : st.ptrAt E A ty = some (c, st')) :
    ∃ own', Rel g own' st' a w ∧ VS c.t v [v] ∧ c.m = .ro ∧ S.R w (g.Z own' w) c.t [v] c.x ∧ Lasts own own' := by
  unfold St.ptrAt at hc
  split at hc
  · exact ptrOf_ok ok h hA hc
  · cases hc
theorem take_ok (ok : S.Ok) (E : Env S) (h : Rel g own st a w) {x : Operand} {ty : Nat} {c : MV S.toNm} {st' : ST S} (hc : st.take E x ty = some (c, st')) (p0 : Path) :
    ∃ own' cs, Rel g own' st' a w ∧ VS c.t (a.eval x) cs ∧ S.OW w own' (g.Z own' w) .lim c.t c.m p0 cs c.x ∧ Lasts own own' ∧ c.m.live = true := by
  unfold St.take at hc
  split at hc
  · rename_i s
    split at hc
    · rename_i t m y e
      split at hc
      · cases hc
        have hv := h.vals s
        rw [e] at hv
        obtain ⟨cs, h1, h2⟩ := TR_ro.1 hv
        exact ⟨own, cs, h, h1, OW_ro.2 h2, .refl, rfl⟩
      · rename_i hm
        split at hc
        · rename_i hl
          cases hc
          obtain ⟨cs, hp, hVS, _⟩ := place_slot h e (fun e => hm e)
          have hr : (st.kill (.slot s)).root (.slot s) = some ⟨t, m, y⟩ := by rw [root_kill]; simp [St.root, e]
          obtain ⟨own', h1, h2, h3⟩ := place_takeS ok h hp (setAt_nil hr) p0
          exact ⟨own', cs, h1, hVS, h2, h3, hl⟩
        · cases hc
    · rename_i r p e
      split at hc
      · rename_i t m y e2
        split at hc
        · rename_i hl
          split at hc
          · rename_i st'' e3
            cases hc
            have hv := h.vals s
            rw [e] at hv
            obtain ⟨l, cs, c, hp, hVS⟩ := hv
            have := at_place hp e2
            subst this
            obtain ⟨own', h1, h2, h3⟩ := place_take ok h hp e3 p0
            exact ⟨own', cs, h1, hVS, h2, h3, hl⟩
          · cases hc
        · cases hc
      · cases hc
    · have hv := h.vals s
      obtain ⟨own', k1, k2, k3, k4, k5⟩ := ptrAt_ok ok h hv hc
      exact ⟨own', _, k1, k2, by rw [k3]; exact OW_ro.2 k4, k5, by rw [k3]; rfl⟩
  · split at hc
    · rename_i t m y e
      cases hc
      have hv := av_ok E h x ty 0
      rw [e] at hv
      have := av_ro E e
      subst this
      obtain ⟨cs, h1, h2⟩ := TR_ro.1 hv
      exact ⟨own, cs, h, h1, OW_ro.2 h2, .refl, rfl⟩
    · cases hc
theorem frz_ok (ok : S.Ok) (E : Env S) (h : Rel g own st a w) {x : Operand} {ty : Nat} {c : MV S.toNm} {st' : ST S} (hc : st.frz E x ty = some (c, st')) :
    ∃ own' cs, Rel g own' st' a w ∧ VS c.t (a.eval x) cs ∧ c.m = .ro ∧ S.R w (g.Z own' w) c.t cs c.x ∧ Lasts own own' := by
  have hv := av_ok E h x ty 0
  unfold St.frz at hc
  split at hc
  · rename_i t m y e
    cases hc
    rw [e] at hv
    have := av_ro E e
    subst this
    obtain ⟨cs, h1, h2⟩ := TR_ro.1 hv
    exact ⟨own, cs, h, h1, rfl, h2, .refl⟩
  · rename_i r p e
    rw [e] at hv
    obtain ⟨l, cs, c', hp, hVS⟩ := hv
    split at hc
    · rename_i t m y e2
      have := at_place hp e2
      subst this
      split at hc
      · rename_i hl
        split at hc
        · rename_i st'' e3
          cases hc
          obtain ⟨own', h1, h2, h3⟩ := place_frz ok h hp hl e3
          exact ⟨own', cs, h1, hVS, rfl, h2, h3⟩
        · cases hc
      · cases hc
    · cases hc
  · obtain ⟨own', k1, k2, k3, k4, k5⟩ := ptrAt_ok ok h hv hc
    exact ⟨own', _, k1, k2, k3, k4, k5⟩
theorem takeS_ok (ok : S.Ok) (E : Env S) (h : Rel g own st a w) {fz : Bool} {x : Operand} {ty : Nat} {c : MV S.toNm} {st' : ST S} (hc : st.takeS E fz x ty = some (c, st')) (p0 : Path) :
    ∃ own' cs, Rel g own' st' a w ∧ VS c.t (a.eval x) cs ∧ S.OW w own' (g.Z own' w) .lim c.t c.m p0 cs c.x ∧ Lasts own own' ∧ c.m.live = true := by
  cases fz with
  | false => exact take_ok ok E h hc p0
  | true =>
    obtain ⟨own', cs, h1, h2, h3, h4, h5⟩ := frz_ok ok E h hc
    exact ⟨own', cs, h1, h2, by rw [h3]; exact OW_ro.2 h4, h5, by rw [h3]; rfl⟩
theorem frzR_ok (ok : S.Ok) (E : Env S) (h : Rel g own st a w) {i : Nat} {t : Ty} {c : MV S.toNm} {st' : ST S} (hc : st.frzR E i t = some (c, st')) :
    ∃ own' cs, Rel g own' st' a w ∧ VS c.t (a.tmps.getD i undef) cs ∧ c.m = .ro ∧ S.R w (g.Z own' w) c.t cs c.x ∧ Lasts own own' := by
  unfold St.frzR at hc
  split at hc
  · rename_i r p e
    have hv := h.vals i
    rw [e] at hv
    obtain ⟨own', k1, k2, k3, k4, k5⟩ := ptrOf_ok ok h hv hc
    exact ⟨own', _, k1, k2, k3, k4, k5⟩
  · exact frz_ok ok E h (x := .tmp i) hc
theorem takeT_ok (ok : S.Ok) (E : Env S) (h : Rel g own st a w) {x : Operand} {want : Ty} {c : MV S.toNm} {st' : ST S} (hc : st.takeT E x want = some (c, st')) (p0 : Path) :
    ∃ own' cs, Rel g own' st' a w ∧ VS c.t (a.eval x) cs ∧ S.OW w own' (g.Z own' w) .lim c.t c.m p0 cs c.x ∧ Lasts own own' ∧ c.m.live = true := by
  unfold St.takeT at hc
  split at hc
  · rename_i s
    split at hc
    · rename_i r p e
      have hv := h.vals s
      rw [e] at hv
      obtain ⟨own', k1, k2, k3, k4, k5⟩ := ptrOf_ok ok h hv hc
      exact ⟨own', _, k1, k2, by rw [k3]; exact OW_ro.2 k4, k5, by rw [k3]; rfl⟩
    · exact take_ok ok E h hc p0
  · exact take_ok ok E h hc p0
theorem Rel.lim (h : Rel g own st a w) {own' : Nat → Option Own} (hown : ∀ b, own' b = own b ∨ ((∃ q, own b = some (.lim, q)) ∧ own' b ≠ none ∧ ∀ k, own' b ≠ some (.mem k, none))) : Rel g own' st a w := by
  have hnone : ∀ b, own b = none ↔ own' b = none := fun b => by
    rcases hown b with e | ⟨⟨q, e1⟩, e2, _⟩
    · rw [e]
    · constructor
      · intro e; rw [e] at e1; cases e1
      · intro e; exact absurd e e2
  have hZ : ∀ b, g.Z own w b → g.Z own' w b := fun b hb => ⟨hb.1, hb.2.1, (hnone b).1 hb.2.2⟩
  have hkeep : ∀ b r q, r ≠ .lim → own b = some (r, q) → own' b = some (r, q) := fun b r q hr hb => by
    rcases hown b with e | ⟨⟨q', e1⟩, _⟩
    · rw [e]; exact hb
    · rw [e1] at hb; exact absurd (Prod.mk.inj (Option.some.inj hb)).1.symm hr
  have hmem' : ∀ k b, own' b = some (.mem k, none) → own b = some (.mem k, none) := fun k b hb => by
    rcases hown b with e | ⟨_, _, e⟩
    · rw [← e]; exact hb
    · exact absurd hb (e k)
  refine ⟨h.os, h.tape, h.output, h.size, h.block, fun b hb => h.fresh b (fun e => hb ((hnone b).1 e)), fun i => ?_, fun k c hk => ?_, h.defs, fun k b b' hp hb => h.pins k b b' hp (hmem' k b' hb)⟩
  · have hv := h.vals i
    generalize st.look i = A at *
    cases A with
    | dead => trivial
    | und => exact hv
    | v t m y =>
      obtain ⟨cs, e1, e2⟩ := hv
      exact ⟨cs, e1, OW_frame hZ (fun _ _ => rfl) _ _ _ _ _ _ (fun b q hb => ⟨hkeep b _ _ (by simp) hb, rfl⟩) e2⟩
    | tup t m y =>
      obtain ⟨vs, e1, e2⟩ := hv
      exact ⟨vs, e1, TupR_frame hZ (fun _ _ => rfl) _ _ _ e2⟩
    | rp t y =>
      obtain ⟨b, off, cs, e1, e2, e3, e4⟩ := hv
      exact ⟨b, off, cs, e1, hZ b e2, e3, e4.frame hZ (fun _ _ => rfl)⟩
    | ref r p =>
      obtain ⟨l, cs, c, e1, e2⟩ := hv
      exact ⟨l, cs, c, Place_own e1 rfl (fun _ _ => rfl) (fun k b _ => hkeep b _ _ (by simp)), e2⟩
    | addr r p =>
      obtain ⟨b, off, cs, c, e1, e2⟩ := hv
      exact ⟨b, off, cs, c, Place_own e1 rfl (fun _ _ => rfl) (fun k b _ => hkeep b _ _ (by simp)), e2⟩
    | fn g' cs' =>
      obtain ⟨vs, f1, f2⟩ := hv
      refine ⟨vs, f1, f2.mono fun c hcm v hc => ?_⟩
      cases c with
      | d t' y =>
        obtain ⟨b', off', cs', e1, e2, e3, e4⟩ := hc
        exact ⟨b', off', cs', e1, hZ b' e2, e3, e4.frame hZ (fun _ _ => rfl)⟩
      | m k' =>
        obtain ⟨b, off, cs, c, e1, e2⟩ := hc
        exact ⟨b, off, cs, c, Place_own e1 rfl (fun _ _ => rfl) (fun k b _ => hkeep b _ _ (by simp)), e2⟩
  · obtain ⟨b, e, cells, g1, g2, g3, g4⟩ := h.mems k c hk
    exact ⟨b, e, cells, hkeep b _ _ (by simp) g1, g2, OW_frame hZ (fun _ _ => rfl) _ _ _ _ _ _ (fun b q hb => ⟨hkeep b _ _ (by simp) hb, rfl⟩) g3, fun b' hb' => g4 b' (hmem' k b' hb')⟩
theorem lim_to (h : Rel g own st a w) {r : Root} {p : Path} {c : MV S.toNm} {cs : List Value} (hO : S.OW w own (g.Z own w) .lim c.t c.m [] cs c.x) :
    ∃ own', Rel g own' st a w ∧ S.OW w own' (g.Z own' w) r c.t c.m p cs c.x ∧ (∀ b, own b = none ↔ own' b = none) ∧ (∀ b r' q, r' ≠ .lim → own b = some (r', q) → own' b = some (r', q)) := by
  have hnone : ∀ b, own b = none → relab own .lim [] r p b = none := fun b hb => by
    rw [relab_ne (by rintro ⟨s, e⟩; rw [hb] at e; cases e)]; exact hb
  refine ⟨relab own .lim [] r p, h.lim fun b => ?_, ?_, fun b => ⟨hnone b, fun hb => ?_⟩, fun b r' q hr hb => ?_⟩
  · by_cases hb : ∃ s, own b = some (.lim, some ([] ++ s))
    · obtain ⟨s, hb⟩ := hb
      refine .inr ⟨⟨_, hb⟩, ?_, fun k => ?_⟩ <;> rw [relab_at hb] <;> simp
    · exact .inl (relab_ne hb)
  · exact OW_frame (fun b hb => ⟨hb.1, hb.2.1, hnone b hb.2.2⟩) (fun _ _ => rfl) _ _ _ _ _ _ (fun b q hb => ⟨relab_at hb, rfl⟩) hO
  · by_cases he : ∃ s, own b = some (.lim, some ([] ++ s))
    · obtain ⟨s, he⟩ := he
      rw [relab_at he] at hb; cases hb
    · rw [relab_ne he] at hb; exact hb
  · rw [relab_ne (by rintro ⟨s, e⟩; rw [hb] at e; exact hr (Prod.mk.inj (Option.some.inj e)).1)]; exact hb
theorem put_lim (h : Rel g own st a w) (hn : Hint) {d : Nat} (hd : d < a.tmps.size) {c : MV S.toNm} {v : Value} {cs : List Value} (hVS : VS c.t v cs) (hO : S.OW w own (g.Z own w) .lim c.t c.m [] cs c.x) :
    ∃ own', Rel g own' (st.put hn d (.v c.t c.m c.x)) (a.put (some d) v) w := by
  obtain ⟨own', h1, h2, _⟩ := lim_to (r := .slot d) (p := []) h hO
  exact ⟨own', h1.put hn hd ⟨cs, hVS, h2⟩⟩
theorem rd_lim {o : Oper} {κ : ST S → Option α} {r : α} (hn : Hint) {own' : Nat → Option Own} {st' : ST S} (h : Rel g own' st' a w) (hd : ∀ d, o.dst = some d → d < a.tmps.size) {c : MV S.toNm} {v : Value} {cs : List Value}
    (hrun : ∀ w', Below w.heap.size w w' → (execOp a.eval o).run g.P w' = .ok (.value v) w') (hVS : VS c.t v cs) (hO : S.OW w own' (g.Z own' w) .lim c.t c.m [] cs c.x)
    (hκ : κ (match o.dst with | some d => st'.put hn d (.v c.t c.m c.x) | none => st') = some r) : Rd g o a w κ r := by
  cases hdst : o.dst with
  | none => rw [hdst] at hκ; exact ⟨v, own', st', hrun, by rw [hdst]; exact h, hκ⟩
  | some d =>
    rw [hdst] at hκ
    obtain ⟨own'', h2⟩ := put_lim h hn (hd d hdst) hVS hO
    exact ⟨v, own'', _, hrun, by rw [hdst]; exact h2, hκ⟩
theorem lit_slice {e : Nat} {t : Ty} {v : Value} {y : S.den (.slice e t)} (h : S.lit (.slice e t) v = some y) : v = .slice none 0 0 ∧ y = ([] : List (S.den t)) := by
  cases v with
  | slice b n c => cases b <;> cases n <;> cases c <;> first | (cases h; exact ⟨rfl, rfl⟩) | cases h
  | _ => cases h
theorem rd_assign {o : Oper} {x : Operand} {hn : Hint} {κ π : ST S → Option α} {r : α} (ok : S.Ok) (h : Rel g own st a w) (hd : ∀ d, o.dst = some d → d < a.tmps.size)
    (ho : o.op = .assign x) (hκ : opK π g.E hn o st κ = some r) : Rd g o a w κ r := by
  simp only [opK, ho] at hκ
  have hrun : ∀ w', Below w.heap.size w w' → (execOp a.eval o).run g.P w' = .ok (.value (a.eval x)) w' := fun w' _ => run_move (.inr ho) w'
  split at hκ
  · rename_i v
    split at hκ
    · rename_i t m y d e hdst
      have hv := av_ok g.E h (.const v) o.type 0
      rw [e] at hv
      have := av_ro g.E e
      subst this
      have hx : TR g (st.put hn d (.v t (constMode hn d t) y)) own (a.put (some d) (a.eval (.const v))) w d (.v t (constMode hn d t) y) (a.eval (.const v)) := by
        have hro := hv
        by_cases hm : constMode hn d t = .ro
        · rw [hm]; exact TR_ro.2 (TR_ro.1 hv)
        · unfold constMode at hm
          split at hm
          · rename_i ee et
            split at hm
            · rename_i m' hm'
              have hc : constMode hn d (.slice ee et) = .own m' := by simp only [constMode, hm']
              rw [hc]
              have hl : S.lit (.slice ee et) v = some y := by
                simp only [St.av] at e
                split at e
                · cases e
                · cases e
                · cases e
                · split at e
                  · split at e
                    · rename_i hl; cases e; exact hl
                    · cases e
                  · cases e
              obtain ⟨rfl, rfl⟩ := lit_slice hl
              exact ⟨[.slice none 0 0], rfl, .inl ⟨rfl, rfl⟩⟩
            · exact absurd rfl hm
          · exact absurd rfl hm
      exact ⟨_, own, _, hrun, by rw [hdst]; exact h.put hn (hd d hdst) hx, hκ⟩
    · cases hκ
  · rename_i s
    split at hκ
    · rename_i t m y e
      split at hκ
      · have hv := h.vals s
        rw [e] at hv
        exact rd_put hn h hd hrun (TR_ro.1 hv) hκ
      · rename_i hm
        split at hκ
        · rename_i d hdst
          obtain ⟨cs, hp, hVS, _⟩ := place_slot h e (fun e => hm e)
          have hr : (st.kill (.slot s)).root (.slot s) = some ⟨t, m, y⟩ := by rw [root_kill]; simp [St.root, e]
          split at hκ
          · obtain ⟨own', h1, h2, h3⟩ := place_takeS ok h hp (setAt_nil hr) []
            exact rd_lim hn (c := ⟨t, m, y⟩) h1 hd hrun hVS h2 (by rw [hdst]; exact hκ)
          · split at hκ
            · rename_i hl
              obtain ⟨own', h1, h2, h3⟩ := place_frzS ok h hp hl (setAt_nil hr)
              exact rd_lim hn (c := ⟨t, .ro, y⟩) h1 hd hrun hVS (OW_ro.2 h2) (by rw [hdst]; exact hκ)
            · cases hκ
        · cases hκ
    · rename_i r' p e
      split at hκ
      · split at hκ
        · rename_i c st' e2
          obtain ⟨own', cs, h1, h2, h3, _, _⟩ := take_ok ok g.E h e2 []
          exact rd_lim hn (c := c) h1 hd hrun h2 h3 hκ
        · cases hκ
      split at hκ
      · rename_i c st' e2
        obtain ⟨own', cs, h1, h2, hm, h3, h4⟩ := frz_ok ok g.E h e2
        refine rd_lim hn (c := ⟨c.t, .ro, c.x⟩) h1 hd hrun h2 (OW_ro.2 h3) hκ
      · cases hκ
    · cases hκ
    · rename_i hne1 hne2 hne3
      have hv := h.vals s
      exact rd_putK (i := s) hn h hd hrun hv (fun t m y e => absurd e (hne1 t m y)) hκ
  · cases hκ
end
end Go.Proofs.Ytdnkjfmneppkoaa.Vm
namespace Go.Proofs.Ytdnkjfmneppkoaa.Vm
open Go Go.RowKit
set_option linter.unusedVariables false
section
variable {S : Cx} {α : Type} {g : Gl S} {own : Nat → Option Own} {st : ST S} {a : Act} {w : World}
theorem run_bounds {E : Env S} (ok : S.Ok) (h : Rel g own st a w) {lo hi : Option Operand} {n cap : Nat} (hc : n ≤ cap) {κ : Nat → Nat → Option α} {r : α}
    (hκ : opK.bounds g.E st lo hi n κ = some r) : ∃ x y, x ≤ y ∧ y ≤ n ∧ κ x y = some r ∧
      ∀ (b : Bool) (w' : World), (Instr.sliceBounds b n cap (lo.map a.eval) (hi.map a.eval) none).run g.P w' = .ok (x, y, cap) w' := by
  unfold opK.bounds at hκ
  have low : ∀ y, (match lo with
      | none => κ 0 y
      | some x => match asInt (st.val g.E x 0) with
        | some (_, j) => must (decide (0 ≤ j)) (must (decide (j ≤ (y : Int))) (κ j.toNat y))
        | none => none) = some r → ∃ x, x ≤ y ∧ κ x y = some r ∧ ((lo = none ∧ x = 0) ∨ ∃ o k j, lo = some o ∧ a.eval o = .int k j ∧ 0 ≤ j ∧ j ≤ y ∧ x = j.toNat) := by
    intro y hy
    split at hy
    · exact ⟨0, Nat.zero_le _, hy, .inl ⟨rfl, rfl⟩⟩
    · rename_i o
      split at hy
      · rename_i k j e
        obtain ⟨h1, hy⟩ := must_some hy
        obtain ⟨h2, hy⟩ := must_some hy
        have h1 := of_decide_eq_true h1
        have h2 := of_decide_eq_true h2
        exact ⟨j.toNat, by omega, hy, .inr ⟨o, k, j, rfl, int_ok ok g.E h e, h1, h2, rfl⟩⟩
      · cases hy
  cases hi with
  | none =>
    obtain ⟨x, h1, h2, h3⟩ := low n hκ
    refine ⟨x, n, h1, Nat.le_refl _, h2, fun b w' => ?_⟩
    rcases h3 with ⟨rfl, rfl⟩ | ⟨o, k, j, rfl, hv, h4, h5, rfl⟩
    · simp only [Instr.sliceBounds, Option.map, pure_bind]; rfl
    · simp only [Instr.sliceBounds, Option.map, pure_bind, hv, Sem.run_bind, run_sliceBound w' k j n _ h4 h5, Result.andThen_ok]; rfl
  | some oh =>
    simp only at hκ
    split at hκ
    · rename_i k' j' e
      have hv' := int_ok ok g.E h e
      obtain ⟨g1, hκ⟩ := must_some hκ
      obtain ⟨g2, hκ⟩ := must_some hκ
      have g1 := of_decide_eq_true g1
      have g2 := of_decide_eq_true g2
      obtain ⟨x, h1, h2, h3⟩ := low j'.toNat hκ
      refine ⟨x, j'.toNat, h1, by omega, h2, fun b w' => ?_⟩
      have hh : ∀ c, (Instr.sliceBound (.int k' j') cap c).run g.P w' = .ok j'.toNat w' := fun c => run_sliceBound w' k' j' cap c g1 (by omega)
      rcases h3 with ⟨rfl, rfl⟩ | ⟨o, k, j, rfl, hv, h4, h5, rfl⟩
      · simp only [Instr.sliceBounds, Option.map, pure_bind, hv', Sem.run_bind, hh, Result.andThen_ok]; rfl
      · simp only [Instr.sliceBounds, Option.map, pure_bind, hv, hv', Sem.run_bind, hh, Result.andThen_ok, run_sliceBound w' k j _ _ h4 h5]; rfl
    · cases hκ
theorem extract_mk (s : List UInt8) (x y : Nat) : (ByteArray.mk (Array.mk s)).extract x y = ByteArray.mk (Array.mk ((s.take y).drop x)) := by
  apply ByteArray.ext
  rw [ByteArray.data_extract]
  apply Array.ext'
  simp [List.drop_take]
theorem len_slice {β : Type} (l : List β) {x y : Nat} (h : y ≤ l.length) : ((l.take y).drop x).length = y - x := by
  simp; omega
theorem nth_slice {β : Type} {l : List β} {x y i : Nat} {u : β} (h : nth ((l.take y).drop x) i = some u) : nth l (x + i) = some u ∧ x + i < y := by
  simp only [nth, List.getElem?_drop, List.getElem?_take] at h
  split at h
  · exact ⟨h, by assumption⟩
  · cases h
theorem rd_makeFunc {o : Oper} {fn : Fn} {first cap : Array Operand} {hn : Hint} {κ π : ST S → Option α} {r : α} (ok : S.Ok) (h : Rel g own st a w) (hd : ∀ d, o.dst = some d → d < a.tmps.size)
    (ho : o.op = .makeFunc fn first cap) (hκ : opK π g.E hn o st κ = some r) : Rd g o a w κ r := by
  simp only [opK, ho] at hκ
  split at hκ
  · rename_i f
    split at hκ
    · rename_i hf
      have hf' : first = #[] := by rw [← Array.toList_inj]; exact hf
      split at hκ
      · split at hκ
        · rename_i st' hc
          obtain ⟨own', h1⟩ := capFrz_ok ok _ _ own st st' h hc
          split at hκ
          · rename_i cs hcs
            split at hκ
            · rename_i d hdst
              have hrun : ∀ w', (execOp a.eval o).run g.P w' = .ok (.value (.func (.func f) #[] (cap.map a.eval))) w' := fun w' => by
                simp only [execOp, ho]
                refine run_v ?_
                simp [Instr.makeFunc, hf']
              have hVS : (cap.toList.map a.eval).toArray = cap.map a.eval := by apply Array.ext'; simp
              have hrel := h1.put hn (hd d hdst) (x := .fn f cs) (v := .func (.func f) #[] (cap.map a.eval)) (TR_put hn (hd d hdst) (i := d) (by
                simp only [AVal.rooted, List.any_eq_false]
                intro c _
                cases c <;> simp [Cap.rooted]) (fun _ _ _ e => by cases e) ⟨cap.toList.map a.eval, by rw [hVS], capsAt_ok h1 _ _ hcs⟩)
              exact ⟨_, own', _, fun w' _ => hrun w', by rw [hdst]; exact hrel, hκ⟩
            · cases hκ
          · cases hκ
        · cases hκ
      split at hκ
      · rename_i c st' hc
        obtain ⟨own', h1, h2, _⟩ := capGo_ok ok cap.toList own st st' c h hc
        split at hκ
        · rename_i d hdst
          have hrun : ∀ w', (execOp a.eval o).run g.P w' = .ok (.value (.func (.func f) #[] (cap.map a.eval))) w' := fun w' => by
            simp only [execOp, ho]
            refine run_v ?_
            simp [Instr.makeFunc, hf']
          have hVS : (cap.toList.map a.eval).toArray = cap.map a.eval := by apply Array.ext'; simp
          have hrel := h1.put hn (hd d hdst) (x := .v (.clo f c.t) .ro c.x) (v := .func (.func f) #[] (cap.map a.eval)) (TR_ro.2 ⟨[.func (.func f) #[] (cap.map a.eval)], rfl, Cx.R_clo.2 ⟨cap.toList.map a.eval, by rw [hVS], h2⟩⟩)
          exact ⟨_, own', _, fun w' _ => hrun w', by rw [hdst]; exact hrel, hκ⟩
        · cases hκ
      · cases hκ
    · cases hκ
  · cases hκ
theorem rd_slice {o : Oper} {e : TypeId} {x : Operand} {lo hi : Option Operand} {hn : Hint} {κ π : ST S → Option α} {r : α} (ok : S.Ok) (T : TysOk g.P g.E) (h : Rel g own st a w) (hd : ∀ d, o.dst = some d → d < a.tmps.size)
    (ho : o.op = .slice e x lo hi none) (hκ : opK π g.E hn o st κ = some r) : Rd g o a w κ r := by
  simp only [opK, ho] at hκ
  split at hκ
  · rename_i m s st' e1
    obtain ⟨own', cs, h1, hVS, hm, hR, hL⟩ := frz_ok ok g.E h e1
    split at hκ
    · rename_i ht
      have hu : g.P.underlying e = some .string := (T _ _ (Env.is_lookup ht)).und
      obtain ⟨i, j, b1, b2, hκ, hb⟩ := run_bounds (cap := List.length s) (E := g.E) ok h (Nat.le_refl _) hκ
      have v1 : a.eval x = .string (ByteArray.mk (Array.mk s)) := by
        have := Cx.R_str.1 hR
        subst this
        exact (List.cons.inj hVS).1.symm
      refine rd_lim hn (c := ⟨.str, .ro, (s.take j).drop i⟩) (v := .string (ByteArray.mk (Array.mk ((s.take j).drop i)))) (cs := [.string (ByteArray.mk (Array.mk ((s.take j).drop i)))]) h1 hd (fun w' _ => ?_) rfl (OW_ro.2 (Cx.R_str.2 rfl)) hκ
      simp only [execOp, ho, v1]
      refine run_v ?_
      simp only [Option.map_none, Instr.sliceAt, Sem.run_bind, run_underlying hu, Result.andThen_ok, Instr.slice]
      have hs : (ByteArray.mk (Array.mk s)).size = List.length s := rfl
      simp only [Option.isSome, Bool.false_eq_true, if_false, hs, Sem.run_bind, hb false w', Result.andThen_ok]
      exact congrArg (fun z => Result.ok (Value.string z) w') (extract_mk s i j)
    · cases hκ
  · rename_i ee t m s st' e1
    obtain ⟨own', cs, h1, hVS, hm, hR, hL⟩ := frz_ok ok g.E h e1
    split at hκ
    · rename_i ht
      have tf := T _ _ (Env.is_lookup ht)
      obtain ⟨hu, he, hp⟩ := tf.und
      have hsz := fun w' => (T _ _ he).size w'
      rw [Cx.size_un ok] at hsz
      obtain ⟨ad, c, rfl, hc, hel⟩ := Cx.R_slice.1 hR
      obtain ⟨i, j, b1, b2, hκ, hb⟩ := run_bounds (cap := c) (E := g.E) ok h hc hκ
      have v1 : a.eval x = .slice ad (List.length s) c := (List.cons.inj hVS).1.symm
      have hlen : List.length (List.drop i (List.take j s)) = j - i := len_slice _ b2
      refine rd_lim hn (c := ⟨.slice ee t, .ro, (s.take j).drop i⟩) (v := .slice (if c = i then ad else ad.map (·.add (i * S.size t))) (j - i) (c - i)) (cs := [.slice (if c = i then ad else ad.map (·.add (i * S.size t))) (j - i) (c - i)]) h1 hd (fun w' _ => ?_) rfl
        (OW_ro.2 (Cx.R_slice.2 ⟨_, _, by rw [hlen], by rw [hlen]; omega, fun k u hk => ?_⟩)) hκ
      · simp only [execOp, ho, v1]
        refine run_v ?_
        simp only [Option.map_none, Instr.sliceAt, Sem.run_bind, run_underlying hu, Result.andThen_ok, Instr.slice, hb true w', hsz w']
        rfl
      · obtain ⟨k1, k2⟩ := nth_slice hk
        obtain ⟨b, off, cs', rfl, f1, f2, f3⟩ := hel (i + k) u k1
        refine ⟨b, off + i * S.size t, cs', ?_, f1, ?_, f3⟩
        · rw [if_neg (by omega)]
          simp [add_off]
        · rw [Nat.add_assoc, ← Nat.add_mul]; exact f2
    · cases hκ
  · cases hκ
end
end Go.Proofs.Ytdnkjfmneppkoaa.Vm
namespace Go.Proofs.Ytdnkjfmneppkoaa.Vm
open Go Go.RowKit
set_option linter.unusedVariables false
section
variable {S : Cx} {α : Type} {g : Gl S} {own : Nat → Option Own} {st : ST S} {a : Act} {w : World}
theorem Cx.R0_one {rec : (n : Nat) → List Value → S.N n → Prop} {w : World} {Z : Nat → Prop} (hr : ∀ n cs y, rec n cs y → ∀ v ∈ cs, v.oneCell' = true) :
    ∀ (t : Ty) (cs : List Value) (x : S.den t), S.R0 rec w Z t cs x → ∀ v ∈ cs, v.oneCell' = true
  | .int _, _, _, h => by cases h; simp [Value.oneCell']
  | .bool, _, _, h => by cases h; simp [Value.oneCell']
  | .str, _, _, h => by cases h; simp [Value.oneCell']
  | .slice _ _, _, _, ⟨_, _, h1, _⟩ => by cases h1; simp [Value.oneCell']
  | .pair a b, _, _, ⟨c1, c2, h1, h2, h3, h4⟩ => fun v hv => by
      rw [h1, List.mem_append] at hv
      rcases hv with hv | hv
      · exact Cx.R0_one hr a _ _ h3 v hv
      · exact Cx.R0_one hr b _ _ h4 v hv
  | .agg t, _, _, h => Cx.R0_one hr t _ _ h
  | .ptr _, _, _, .inl h => by rw [h.1]; simp [Value.oneCell']
  | .ptr _, _, _, .inr ⟨_, _, _, h1, _⟩ => by rw [h1]; simp [Value.oneCell']
  | .lptr _, _, _, .inl h => by rw [h.1]; simp [Value.oneCell']
  | .lptr _, _, _, .inr ⟨_, _, _, h1, _⟩ => by rw [h1]; simp [Value.oneCell']
  | .named _, _, _, h => hr _ _ _ h
  | .unit, _, _, h => by cases h; simp
  | .arr n t, cs, l, ⟨h1, h2, h3⟩ => fun v hv => by
      obtain ⟨j, hj, rfl⟩ := List.getElem_of_mem hv
      have hs : 0 < S.size t := by
        rcases Nat.eq_zero_or_pos (S.size t) with h0 | h0
        · rw [h0, Nat.mul_zero] at h2; omega
        · exact h0
      have hi : j / S.size t < n := by rw [Nat.div_lt_iff_lt_mul hs]; omega
      have hx : j / S.size t < l.length := by rw [h1]; exact hi
      refine Cx.R0_one hr t _ _ (h3 (j / S.size t) (List.getD l (j / S.size t) (S.zero t)) (getD_nth (S.zero t) hx)) _ ?_
      have hd := Nat.div_add_mod j (S.size t)
      have hm := Nat.mod_lt j hs
      have e : cs[j] = ((cs.drop (j / S.size t * S.size t)).take (S.size t))[j % S.size t]'(by rw [el_len h2 hi]; exact hm) := by
        rw [List.getElem_take, List.getElem_drop]
        congr 1
        rw [Nat.mul_comm]; omega
      rw [e]
      exact List.getElem_mem _
  | .box _, _, _, ⟨_, _, _, h1, _⟩ => by cases h1; simp [Value.oneCell']
  | .clo _ _, _, _, ⟨_, h1, _⟩ => by cases h1; simp [Value.oneCell']
  | .map _ _, _, _, h => h.elim
theorem Cx.RN_one {w : World} {Z : Nat → Prop} : ∀ (d n : Nat) (cs : List Value) (y : S.N n), S.RN w Z d n cs y → ∀ v ∈ cs, v.oneCell' = true
  | 0, _, _, _, h => h.elim
  | d + 1, n, cs, y, h => Cx.R0_one (fun n cs y => Cx.RN_one d n cs y) (S.body n) cs (S.out n y) h
theorem Cx.R.one {w : World} {Z : Nat → Prop} {t : Ty} {cs : List Value} {x : S.den t} (h : S.R w Z t cs x) : ∀ v ∈ cs, v.oneCell' = true :=
  let ⟨d, h⟩ := h
  Cx.R0_one (fun n cs y => Cx.RN_one d n cs y) t cs x h
theorem OW_one {own : Nat → Option Own} {Z : Nat → Prop} {r : Root} {t : Ty} {m : Mode} {p : Path} {cs : List Value} {x : S.den t} (h : S.OW w own Z r t m p cs x) (hl : m.live = true) : ∀ v ∈ cs, v.oneCell' = true :=
  Cx.R.one (OW_R (Z' := fun _ => True) (fun _ _ => trivial) t m p cs x hl (fun _ _ _ => trivial) h)
theorem VS_list {t : Ty} {v : Value} {cs : List Value} (h : VS t v cs) (h1 : ∀ v ∈ cs, v.oneCell' = true) : v.cells = cs.toArray := by
  unfold VS at h
  split at h
  · rw [h]; rfl
  · subst h
    have := h1 v (by simp)
    cases v <;> first | rfl | cases this
theorem run_newVar {P : Program} (w : World) (e : TypeId) (v : Value) : (newVar e v).run P w = .ok ⟨w.heap.size, 0, none⟩ (w.alloc (.cells v.cells e)) := by
  simp only [newVar, newRow, Sem.run_bind, run_newObj_alloc, Result.andThen_ok]; rfl
theorem alloc_at {w : World} {o : Obj} : (w.alloc o).heap[w.heap.size]? = some o := by
  show (w.heap.push o)[w.heap.size]? = _
  simp
theorem alloc_size {w : World} {o : Obj} : (w.alloc o).heap.size = w.heap.size + 1 := by
  show (w.heap.push o).size = _
  simp
theorem not_own (h : Rel g own st a w) : own w.heap.size = none := by
  cases e : own w.heap.size with
  | none => rfl
  | some x => have := (h.fresh w.heap.size (by rw [e]; simp)).2; omega
theorem Rel.newMem (h : Rel g own st a w) (hn : Hint) {d : Nat} (hpin : g.pin d = none) (hd : d < a.tmps.size) {c : MV S.toNm} {cs : List Value} {e : TypeId} (hO : S.OW w own (g.Z own w) .lim c.t c.m [] cs c.x) :
    ∃ own', Rel g own' (st.newMem hn d c) (a.put (some d) (.pointer (some ⟨w.heap.size, 0, none⟩))) (w.alloc (.cells cs.toArray e)) := by
  obtain ⟨own1, h1, hO1, hnn, hkeep⟩ := lim_to (r := .mem d) (p := []) h hO
  have hbel : Below w.heap.size w (w.alloc (.cells cs.toArray e)) := (Below.refl _ w).alloc (Nat.le_refl _) _
  have h2 := h1.keep hbel
  have hnew : own1 w.heap.size = none := not_own h1
  let own2 : Nat → Option Own := fun b => if b = w.heap.size then some (.mem d, none) else if own1 b = some (.mem d, none) then some (.lim, none) else own1 b
  have o_new : own2 w.heap.size = some (.mem d, none) := by simp [own2]
  have o_old : ∀ b, b < w.heap.size → own1 b ≠ some (.mem d, none) → own2 b = own1 b := fun b hb hne => by
    have : b ≠ w.heap.size := by omega
    simp [own2, this, hne]
  have o_some : ∀ b r q, own1 b = some (r, some q) → own2 b = some (r, some q) := fun b r q hb => by
    have hlt := (h1.fresh b (by rw [hb]; simp)).2
    rw [o_old b hlt (by rw [hb]; simp), hb]
  have o_mem : ∀ k b, k ≠ d → own1 b = some (.mem k, none) → own2 b = some (.mem k, none) := fun k b hk hb => by
    have hlt := (h1.fresh b (by rw [hb]; simp)).2
    rw [o_old b hlt (by rw [hb]; simpa using hk), hb]
  have o_mem' : ∀ k b, k ≠ d → own2 b = some (.mem k, none) → own1 b = some (.mem k, none) := fun k b hk hb => by
    simp only [own2] at hb
    split at hb
    · simp at hb; exact absurd hb.symm hk
    · split at hb
      · simp at hb
      · exact hb
  have o_d : ∀ b, own2 b = some (.mem d, none) → b = w.heap.size := fun b hb => by
    simp only [own2] at hb
    split at hb
    · assumption
    · split at hb
      · simp at hb
      · rename_i hne; exact absurd hb hne
  have hZ : ∀ b, g.Z own1 w b → g.Z own2 (w.alloc (.cells cs.toArray e)) b := fun b hb => ⟨hb.1, by rw [alloc_size]; have := hb.2.1; omega, by rw [o_old b hb.2.1 (by rw [hb.2.2]; simp)]; exact hb.2.2⟩
  have hZw : ∀ b, g.Z own1 w b → (w.alloc (.cells cs.toArray e)).heap[b]? = w.heap[b]? := fun b hb => hbel.block b hb.2.1
  have hlt : ∀ b, own1 b ≠ none → b < w.heap.size := fun b hb => (h1.fresh b hb).2
  have hOW : ∀ {r : Root} {t : Ty} {m : Mode} {p : Path} {cs' : List Value} {x : S.den t}, S.OW w own1 (g.Z own1 w) r t m p cs' x →
      S.OW (w.alloc (.cells cs.toArray e)) own2 (g.Z own2 (w.alloc (.cells cs.toArray e))) r t m p cs' x := fun hO => OW_frame hZ hZw _ _ _ _ _ _ (fun b q hb => ⟨o_some b _ _ hb, hbel.block b (hlt b (by rw [hb]; simp))⟩) hO
  let st2 : ST S := { st.drop (.mem d) with mems := upd st.mems d c }
  have hlook : ∀ i, st2.look i = .dead ∨ (st2.look i = st.look i ∧ (st.look i).rooted (.mem d) = false) := fun i => by
    have e : st2.look i = (st.drop (.mem d)).look i := rfl
    rw [e, St.drop, look_killBy _ _ _ rfl]
    cases hh : (st.look i).rooted (.mem d)
    · exact .inr ⟨rfl, rfl⟩
    · exact .inl rfl
  have hroot : ∀ r, r ≠ .mem d → st2.root r = st.root r := fun r hr => by
    cases r with
    | slot s =>
      have : st2.root (.slot s) = (st.drop (.mem d)).root (.slot s) := rfl
      rw [this]; exact root_killBy st _ (fun _ _ _ => rfl) rfl _
    | mem k =>
      have hk : k ≠ d := fun e => hr (by rw [e])
      simp only [St.root, st2, lookup_upd, if_neg hk]
    | lim => rfl
  have hrd : st2.root (.mem d) = some c := by simp [St.root, st2, lookup_upd]
  have hplace : ∀ {r p l cs' c'}, r ≠ .mem d → Place st own1 a w r p l cs' c' → Place st2 own2 a (w.alloc (.cells cs.toArray e)) r p l cs' c' := fun hr hp =>
    Place_own (Place_keep hbel.block hp) (hroot _ hr) (fun _ _ => rfl) (fun k b he hb => o_mem k b (fun e => hr (by rw [he, e])) hb)
  have hrel : Rel g own2 st2 a (w.alloc (.cells cs.toArray e)) := by
    refine ⟨h2.os, h2.tape, h2.output, h2.size, h2.block, fun b hb => ?_, fun i => ?_, fun k c' hk => ?_, h2.defs, fun k b b' hp hb => h1.pins k b b' hp (o_mem' k b' (fun e => by rw [e, hpin] at hp; cases hp) hb)⟩
    · by_cases hbn : b = w.heap.size
      · subst hbn
        exact ⟨.inl h1.size, by rw [alloc_size]; omega⟩
      · have : own1 b ≠ none := fun e => hb (by simp [own2, hbn, e])
        exact ⟨(h1.fresh b this).1, by rw [alloc_size]; have := (h1.fresh b this).2; omega⟩
    · rcases hlook i with e' | ⟨e', hr⟩
      · rw [e']; trivial
      · rw [e']
        have hv := h1.vals i
        generalize st.look i = A at *
        cases A with
        | dead => trivial
        | und => exact hv
        | v t m y => obtain ⟨cs', e1, e2⟩ := hv; exact ⟨cs', e1, hOW e2⟩
        | tup t m y => obtain ⟨vs, e1, e2⟩ := hv; exact ⟨vs, e1, TupR_frame hZ hZw _ _ _ e2⟩
        | rp t y =>
          obtain ⟨b, off, cs', e1, e2, e3, e4⟩ := hv
          exact ⟨b, off, cs', e1, hZ b e2, by rw [cellsAt_same (hZw b e2)]; exact e3, e4.frame hZ hZw⟩
        | ref r p =>
          obtain ⟨l, cs', c', e1, e2⟩ := hv
          exact ⟨l, cs', c', hplace (fun e => by subst e; simp [AVal.rooted] at hr) e1, e2⟩
        | addr r p =>
          obtain ⟨b, off, cs', c', e1, e2⟩ := hv
          exact ⟨b, off, cs', c', hplace (fun e => by subst e; simp [AVal.rooted] at hr) e1, e2⟩
        | fn g' cs' =>
          obtain ⟨vs, f1, f2⟩ := hv
          refine ⟨vs, f1, f2.mono fun c hcm v hc => ?_⟩
          cases c with
          | d t' y =>
            obtain ⟨b, off, cs', e1, e2, e3, e4⟩ := hc
            exact ⟨b, off, cs', e1, hZ b e2, by rw [cellsAt_same (hZw b e2)]; exact e3, e4.frame hZ hZw⟩
          | m k =>
            obtain ⟨b, off, cs', c', e1, e2⟩ := hc
            exact ⟨b, off, cs', c', hplace (cap_rooted hr hcm) e1, e2⟩
    · by_cases hkd : k = d
      · subst hkd
        have : c' = c := by
          have hk' : st2.root (.mem k) = some c' := hk
          rw [hrd] at hk'; exact (Option.some.inj hk').symm
        subst this
        exact ⟨w.heap.size, e, cs.toArray, o_new, alloc_at, by simpa using hOW hO1, o_d⟩
      · have hk' : st2.root (.mem k) = some c' := hk
        rw [hroot _ (by simpa using hkd)] at hk'
        obtain ⟨b, e', cells, g1, g2, g3, g4⟩ := h1.mems k c' hk'
        exact ⟨b, e', cells, o_mem k b hkd g1, by rw [hbel.block b (hlt b (by rw [g1]; simp))]; exact g2, hOW g3, fun b' hb' => g4 b' (o_mem' k b' hkd hb')⟩
  refine ⟨own2, ?_⟩
  have : st.newMem hn d c = st2.put hn d (.addr (.mem d) []) := rfl
  rw [this]
  refine hrel.put hn hd ⟨w.heap.size, 0, cs, c, ?_, rfl⟩
  refine ⟨c.t, c.m, c.x, some (w.heap.size, 0), cs, ?_, (fun s hs => by cases hs), ⟨w.heap.size, e, cs.toArray, rfl, o_new, alloc_at, rfl⟩, okP_nil, nav_nil, getP_nil⟩
  have : (st2.put hn d (.addr (.mem d) [])).root (.mem d) = st2.root (.mem d) := by simp only [St.root, put_mems]
  rw [this, hrd]
def Do (g : Gl S) (keep : Bool) (o : Oper) (a : Act) (w : World) (κ : ST S → Option α) (r : α) : Prop :=
  ∀ Q : Exit → Act → World → Prop, o.wp g.P a w (fun a' w' => ∃ own' st', Rel g own' st' a' w' ∧ κ st' = some r ∧ a'.tmps.size = a.tmps.size ∧ (keep = true → Below w.heap.size w w')) Q
def PanOk (g : Gl S) (π : ST S → Option α) (r : α) (Q : Exit → Act → World → Prop) (A : Act → Prop) : Prop :=
  ∀ own st a0 a w, A a0 → A a → a.defers = g.defs → Rel g own st a0 w → π st = some r → Q (.panic [{ v := .iface g.E.pt (.agg #[]), recovered := false }]) a w
def DoP (g : Gl S) (π : ST S → Option α) (keep : Bool) (o : Oper) (a : Act) (w : World) (κ : ST S → Option α) (r : α) : Prop :=
  ∀ (Q : Exit → Act → World → Prop) (A : Act → Prop), PanOk g π r Q A → A a → o.wp g.P a w (fun a' w' => ∃ own' st', Rel g own' st' a' w' ∧ κ st' = some r ∧ a'.tmps.size = a.tmps.size ∧ (keep = true → Below w.heap.size w w')) Q
theorem Do.pan {keep : Bool} {o : Oper} {π κ : ST S → Option α} {r : α} (h : Do g keep o a w κ r) : DoP g π keep o a w κ r := fun Q _ _ _ => h Q
theorem do_run {o : Oper} {κ : ST S → Option α} {r : α} {v : Value} {w' : World} {own' : Nat → Option Own} {st' : ST S} {keep : Bool} (hrun : (execOp a.eval o).run g.P w = .ok (.value v) w')
    (hrel : Rel g own' st' (a.put o.dst v) w') (hκ : κ st' = some r) (hk : keep = true → Below w.heap.size w w') : Do g keep o a w κ r := by
  intro Q
  unfold Oper.wp
  rw [hrun]
  exact ⟨own', st', hrel, hκ, tmps_put_size, hk⟩
theorem Rd.do {o : Oper} {κ : ST S → Option α} {r : α} {keep : Bool} (h : Rd g o a w κ r) : Do g keep o a w κ r := by
  obtain ⟨v, own', st', h1, h2, h3⟩ := h
  exact do_run (h1 w (Below.refl _ _)) h2 h3 (fun _ => Below.refl _ _)
theorem run_zeroValue {P : Program} {E : Env S} {t : Nat} {ty : Ty} (h : TyFact P E t ty) (w : World) : ∃ z, (zeroValue t).run P w = .ok z w ∧ VS ty z (zc ty) := by
  obtain ⟨i, z, h1, h2, h3, h4, _⟩ := h.info
  exact ⟨z, by simp [zeroValue, typeInfo, h1, h3], h4⟩
theorem OW_zc {own : Nat → Option Own} {Z : Nat → Prop} {r : Root} (ok : S.Ok) : ∀ (t : Ty) (m : Mode) (p : Path), noName t = true → S.OW w own Z r t (Mode.fitTo t m) p (zc t) (S.zero t) := by
  intro t
  induction t with
  | slice e t ih =>
    intro m p h
    cases m with
    | own m => exact .inl ⟨rfl, rfl⟩
    | _ => exact OW_ro.2 (R_zc _ h)
  | pair a b iha ihb =>
    intro m p h
    have h' := h
    simp only [noName, Bool.and_eq_true] at h
    cases m with
    | pr m n => exact ⟨zc a, zc b, rfl, (R_zc (Z := Z) (w := w) a h.1).len ok, iha m _ h.1, ihb n _ h.2⟩
    | _ => exact OW_ro.2 (R_zc _ h')
  | agg t ih => intro m p h; exact OW_agg.2 (ih m _ h)
  | _ => intro m p h; exact OW_ro.2 (R_zc _ h)
theorem do_alloc {o : Oper} {e : TypeId} {hn : Hint} {κ π : ST S → Option α} {r : α} (ok : S.Ok) (T : TysOk g.P g.E) (hpin : ∀ d, d < a.tmps.size → g.pin d = none) (h : Rel g own st a w) (hd : ∀ d, o.dst = some d → d < a.tmps.size)
    (ho : o.op = .alloc e) (hκ : opK π g.E hn o st κ = some r) : Do g true o a w κ r := by
  simp only [opK, ho] at hκ
  split at hκ
  · rename_i t d e1 e2
    have tf := T _ _ e1
    cases hm : (t.isMap || t.isClo) with
    | true =>
      simp only [hm] at hκ
      split at hκ
      · rename_i f u hc hl
        obtain ⟨z, hz, hVS⟩ := run_zeroValue tf w
        have hzc : zc t = [.nilFunc] := by cases t <;> first | rfl | cases hc
        rw [hzc] at hVS
        have hag : t.isAgg = false := by cases t <;> first | rfl | cases hc
        have hzz : z = .nilFunc := by
          unfold VS at hVS
          rw [hag] at hVS
          exact (List.cons.inj hVS).1.symm
        obtain ⟨own', hrel⟩ := h.newMem hn (hpin d (hd d e2)) (hd d e2) (c := ⟨.clo f u, .dd, S.zero (.clo f u)⟩) (e := e) (cs := [.nilFunc]) (OW_dd.2 rfl)
        refine do_run ?_ (by rw [e2]; exact hrel) hκ (fun _ => (Below.refl _ w).alloc (Nat.le_refl _) _)
        simp only [execOp, ho]
        refine run_v' ?_
        simp only [Instr.alloc, Sem.run_bind, hz, Result.andThen_ok, run_newVar, hzz, Value.cells]
        rfl
      · cases hκ
    | false =>
    simp only [hm] at hκ
    obtain ⟨z, hz, hVS⟩ := run_zeroValue tf w
    have hcells : z.cells = (zc t).toArray := VS_list hVS (R_zc (S := S) (w := w) (Z := fun _ => True) t (tf.named hm)).one
    obtain ⟨own', hrel⟩ := h.newMem hn (hpin d (hd d e2)) (hd d e2) (c := ⟨t, Mode.fitTo t (nilMode hn d), S.zero t⟩) (e := e) (OW_zc ok t _ [] (tf.named hm))
    refine do_run ?_ (by rw [e2]; exact hrel) hκ (fun _ => (Below.refl _ w).alloc (Nat.le_refl _) _)
    simp only [execOp, ho]
    refine run_v' ?_
    simp only [Instr.alloc, Sem.run_bind, hz, Result.andThen_ok, run_newVar, hcells]
    rfl
  · cases hκ
  where
  run_v' {P : Program} {s : Sem Value} {v : Value} {w w' : World} (h : s.run P w = .ok v w') : (do pure (Next.value (← s)) : Sem Next).run P w = .ok (.value v) w' := by
    simp only [Sem.run_bind, h, Result.andThen_ok]; rfl
theorem do_box {o : Oper} {e : TypeId} {x : Operand} {hn : Hint} {κ π : ST S → Option α} {r : α} (ok : S.Ok) (hpin : ∀ d, d < a.tmps.size → g.pin d = none) (h : Rel g own st a w) (hd : ∀ d, o.dst = some d → d < a.tmps.size)
    (ho : o.op = .box e x) (hκ : opK π g.E hn o st κ = some r) : Do g true o a w κ r := by
  simp only [opK, ho] at hκ
  split at hκ
  · rename_i d c st' e1 e2
    split at hκ
    · obtain ⟨own', cs, h1, hVS, hO, hL, hl⟩ := take_ok ok g.E h e2 []
      have hcells : (a.eval x).cells = cs.toArray := VS_list hVS (OW_one hO hl)
      obtain ⟨own'', hrel⟩ := h1.newMem hn (hpin d (hd d e1)) (hd d e1) (e := e) hO
      refine do_run ?_ (by rw [e1]; exact hrel) hκ (fun _ => (Below.refl _ w).alloc (Nat.le_refl _) _)
      simp only [execOp, ho]
      refine do_alloc.run_v' ?_
      simp only [Instr.box, Sem.run_bind, run_newVar, Result.andThen_ok, hcells]
      rfl
    · cases hκ
  · cases hκ
end
end Go.Proofs.Ytdnkjfmneppkoaa.Vm
namespace Go.Proofs.Ytdnkjfmneppkoaa.Vm
open Go Go.RowKit
set_option linter.unusedVariables false
section
variable {S : Cx} {α : Type} {g : Gl S} {own : Nat → Option Own} {st : ST S} {a : Act} {w : World}
theorem nav_any {w w' : World} : ∀ (t : Ty) (q : Path) (l : Spot) (cs : List Value) (r : Spot × List Value), q.plain = true → S.nav w t l cs q = some r → S.nav w' t l cs q = some r := by
  intro t
  induction t with
  | slice e t ih =>
    intro q l cs r hp hn
    cases q with
    | nil => exact hn
    | cons s q => cases s with
      | idx i => simp [plain_cons, Step.isIdx] at hp
      | _ => cases hn
  | pair a b iha ihb =>
    intro q l cs r hp hn
    cases q with
    | nil => exact hn
    | cons s q => cases s with
      | fst => exact iha q _ _ _ (by simpa [plain_cons, Step.isIdx] using hp) hn
      | snd => exact ihb q _ _ _ (by simpa [plain_cons, Step.isIdx] using hp) hn
      | _ => cases hn
  | agg t ih =>
    intro q l cs r hp hn
    cases q with
    | nil => exact hn
    | cons s q => cases s with
      | inn => exact ih q _ _ _ (by simpa [plain_cons, Step.isIdx] using hp) hn
      | _ => cases hn
  | arr n t ih =>
    intro q l cs r hp hn
    cases q with
    | nil => exact hn
    | cons s q => cases s with
      | el i =>
        obtain ⟨hi, hn⟩ := nav_el hn
        rw [nav_el_eq hi]
        exact ih q _ _ _ (by simpa [plain_cons, Step.isIdx] using hp) hn
      | _ => cases hn
  | _ =>
    intro q l cs r hp hn
    cases q with
    | nil => exact hn
    | cons s q => cases s <;> cases hn
theorem nav_flag {w : World} {own : Nat → Option Own} {Z : Nat → Prop} {r : Root} {t' : Ty} {m' : Mode} {y : S.den t'} :
    ∀ (t : Ty) (m : Mode) (q p : Path) (l : Spot) (cs : List Value) (x : S.den t) (n : Mode) (z : S.den t) (b off : Nat) (cs0 : List Value),
    S.OW w own Z r t m p cs x → S.okP t q x → S.setP t' m' y t m q x = some (n, z) → S.nav w t l cs q = some (some (b, off), cs0) →
    (∀ b off, l = some (b, off) → ∃ cur e, w.heap[b]? = some (.cells cur e (0, 0))) → ∃ cur e, w.heap[b]? = some (.cells cur e (0, 0)) := by
  intro t
  induction t with
  | slice e t ih =>
    intro m q p l cs x n z b off cs0 h hq hs hn hl
    cases q with
    | nil => cases hn; exact hl _ _ rfl
    | cons s q =>
      cases s with
      | idx i =>
        obtain ⟨hi, hq⟩ := hq
        cases m with
        | own em =>
          rcases h with ⟨_, rfl⟩ | ⟨bb, cc, cells, h1, h2, h3, h4, h5, h6, h7⟩
          · simp at hi
          · have hcell := cellsAt_row h3 (show 0 + i * S.size t + S.size t ≤ cells.size by rw [Nat.zero_add]; exact row_fits hi h4 h6)
            rw [h1] at hn
            simp only [Cx.nav, hcell] at hn
            have hs' : ∃ n' z', S.setP t' m' y t em q (List.getD x i (S.zero t)) = some (n', z') := by
              simp only [Cx.setP] at hs
              split at hs
              · rename_i n' z' he; exact ⟨n', z', he⟩
              · cases hs
            obtain ⟨n', z', hs'⟩ := hs'
            have hel := h7 i _ (getD_nth (l := x) (S.zero t) hi)
            rw [Nat.zero_add] at hn
            exact ih em q (p ++ [Step.idx i]) _ _ _ n' z' b off cs0 hel hq hs' hn (fun b off he => by cases he; exact ⟨cells, e, h3⟩)
        | _ => cases hs
      | _ => exact (hq : False).elim
  | pair a b iha ihb =>
    intro m q p l cs x n z b' off cs0 h hq hs hn hl
    cases q with
    | nil => cases hn; exact hl _ _ rfl
    | cons s q =>
      obtain ⟨c1, c2, rfl, h2, h3, h4⟩ := OW_pair h
      cases s with
      | fst =>
        have hs' : ∃ n' z', S.setP t' m' y a m.fst q x.1 = some (n', z') := by
          simp only [Cx.setP] at hs
          split at hs
          · rename_i n' z' he; exact ⟨n', z', he⟩
          · cases hs
        obtain ⟨n', z', hs'⟩ := hs'
        have hn' : S.nav w a l c1 q = some (some (b', off), cs0) := by
          simp only [Cx.nav, ← h2, List.take_left'] at hn
          simpa using hn
        exact iha m.fst q (p ++ [Step.fst]) l c1 x.1 n' z' b' off cs0 h3 hq hs' hn' hl
      | snd =>
        have hs' : ∃ n' z', S.setP t' m' y b m.snd q x.2 = some (n', z') := by
          simp only [Cx.setP] at hs
          split at hs
          · rename_i n' z' he; exact ⟨n', z', he⟩
          · cases hs
        obtain ⟨n', z', hs'⟩ := hs'
        have hn' : S.nav w b (l.map fun x => (x.1, x.2 + S.size a)) c2 q = some (some (b', off), cs0) := by
          simp only [Cx.nav] at hn
          simpa [← h2] using hn
        refine ihb m.snd q (p ++ [Step.snd]) _ c2 x.2 n' z' b' off cs0 h4 hq hs' hn' (fun b0 off0 he => ?_)
        cases l with
        | none => cases he
        | some l => cases he; exact hl _ _ rfl
      | _ => exact (hq : False).elim
  | agg t ih =>
    intro m q p l cs x n z b off cs0 h hq hs hn hl
    cases q with
    | nil => cases hn; exact hl _ _ rfl
    | cons s q =>
      cases s with
      | inn =>
        have hs' : ∃ n' z', S.setP t' m' y t m q x = some (n', z') := by
          simp only [Cx.setP] at hs
          split at hs
          · rename_i n' z' he; exact ⟨n', z', he⟩
          · cases hs
        obtain ⟨n', z', hs'⟩ := hs'
        exact ih m q (p ++ [Step.inn]) l cs x n' z' b off cs0 (OW_agg.1 h) hq hs' hn hl
      | _ => exact (hq : False).elim
  | arr k t ih =>
    intro m q p l cs x n z b off cs0 h hq hs hn hl
    cases q with
    | nil => cases hn; exact hl _ _ rfl
    | cons s q =>
      cases s with
      | el i =>
        obtain ⟨hi, hq⟩ := hq
        obtain ⟨rfl, rfl, z', hs', rfl⟩ := setP_el hs
        obtain ⟨_, hn⟩ := nav_el hn
        obtain ⟨h1, h2, h3⟩ := Cx.R_arr.1 (OW_ro.1 h)
        refine ih .ro q (p ++ [Step.el i]) _ _ _ .ro z' b off cs0 (OW_ro.2 (h3 i _ (getD_nth (l := x) (S.zero t) (h1.symm ▸ hi)))) hq hs' hn (fun b0 off0 he => ?_)
        cases l with
        | none => cases he
        | some l => cases he; exact hl _ _ rfl
      | _ => exact (hq : False).elim
  | _ =>
    intro m q p l cs x n z b off cs0 h hq hs hn hl
    cases q with
    | nil => cases hn; exact hl _ _ rfl
    | cons s q => cases s <;> exact (hq : False).elim
theorem Place_world {own' : Nat → Option Own} {st' : ST S} {a' : Act} {w' : World} {r : Root} {p : Path} {l : Spot} {cs : List Value} {c : MV S.toNm}
    (h : Place st own a w r p l cs c) (hp : p.plain = true) (hr : st'.root r = st.root r) (hR : ∀ t l cs, RootAt own a w r t l cs → RootAt own' a' w' r t l cs) : Place st' own' a' w' r p l cs c := by
  obtain ⟨t, m, x, l0, cs0, h1, h2, h3, h4, h5, h6⟩ := h
  exact ⟨t, m, x, l0, cs0, hr.trans h1, h2, hR _ _ _ h3, h4, nav_any _ _ _ _ _ hp h5, h6⟩
theorem root_killS (st : ST S) (r : Root) (p : Path) (r' : Root) : (st.killS r p).root r' = st.root r' := by
  unfold St.killS
  split
  · exact root_killBy st _ (fun _ _ _ => rfl) rfl r'
  · exact root_killBy st _ (fun _ _ _ => rfl) rfl r'
theorem look_killS (st : ST S) (r : Root) (p : Path) (i : Nat) : (st.killS r p).look i = .dead ∨ ((st.killS r p).look i = st.look i ∧ (p.plain = true → (st.look i).hangs r = false) ∧ ((st.look i).deep = false ∨ (st.look i).rowIn r p = true)) := by
  unfold St.killS
  split
  · rw [St.killW, look_killBy _ _ _ rfl]
    cases hh : ((st.look i).hangs r || (st.look i).deep)
    · rw [Bool.or_eq_false_iff] at hh; exact .inr ⟨rfl, fun _ => hh.1, .inl hh.2⟩
    · exact .inl rfl
  · rename_i hp
    rw [look_killBy _ _ _ rfl]
    cases hh : (st.look i).deep && !(st.look i).rowIn r p
    · refine .inr ⟨rfl, fun h => (by rw [h] at hp; cases hp), ?_⟩
      cases hd : (st.look i).deep
      · exact .inl rfl
      · rw [hd] at hh; right; simpa using hh
    · exact .inl rfl
theorem rowIn_eq {r : Root} {p : Path} {A : AV S} (h : A.rowIn r p = true) : ∃ i j k, p = [.idx i, .idx j] ∧ A = .ref r [.idx k] := by
  unfold AVal.rowIn at h
  split at h
  · split at h
    · split at h
      · have := of_decide_eq_true h
        subst this
        exact ⟨_, _, _, rfl, rfl⟩
      · cases h
    · cases h
  · cases h
theorem setP_own {t' : Ty} {m' : Mode} {y : S.den t'} : ∀ (t : Ty) (m : Mode) (q : Path) (x : S.den t) (n : Mode) (z : S.den t), q.plain = false → S.setP t' m' y t m q x = some (n, z) → n ≠ .ro := by
  intro t
  induction t with
  | slice e t ih =>
    intro m q x n z hp hs
    cases q with
    | nil => simp [plain_nil] at hp
    | cons s q => cases s with
      | idx i => cases m with
        | own e =>
          simp only [Cx.setP] at hs
          split at hs
          · split at hs
            · cases hs; simp
            · cases hs
          · cases hs
        | _ => cases hs
      | _ => cases hs
  | pair a b iha ihb =>
    intro m q x n z hp hs
    cases q with
    | nil => simp [plain_nil] at hp
    | cons s q => cases s with
      | fst =>
        simp only [Cx.setP] at hs
        split at hs
        · rename_i n' z' he
          cases hs
          have := iha m.fst q x.1 n' z' (by simpa [plain_cons, Step.isIdx] using hp) he
          cases n' <;> simp_all [Mode.mk]
        · cases hs
      | snd =>
        simp only [Cx.setP] at hs
        split at hs
        · rename_i n' z' he
          cases hs
          have := ihb m.snd q x.2 n' z' (by simpa [plain_cons, Step.isIdx] using hp) he
          cases h : m.fst <;> cases n' <;> simp_all [Mode.mk]
        · cases hs
      | _ => cases hs
  | agg t ih =>
    intro m q x n z hp hs
    cases q with
    | nil => simp [plain_nil] at hp
    | cons s q => cases s with
      | inn =>
        simp only [Cx.setP] at hs
        split at hs
        · rename_i n' z' he
          cases hs
          exact ih m q x _ _ (by simpa [plain_cons, Step.isIdx] using hp) he
        · cases hs
      | _ => cases hs
  | arr k t ih =>
    intro m q x n z hp hs
    cases q with
    | nil => simp [plain_nil] at hp
    | cons s q => cases s with
      | el i =>
        cases m with
        | ro =>
          simp only [Cx.setP] at hs
          split at hs
          · rename_i n' z' he
            split at hs
            · exact absurd rfl (ih .ro q _ _ _ (by simpa [plain_cons, Step.isIdx] using hp) he)
            · cases hs
          · cases hs
        | _ => cases hs
      | _ => cases hs
  | _ =>
    intro m q x n z hp hs
    cases q with
    | nil => simp [plain_nil] at hp
    | cons s q => cases s <;> cases hs
theorem Rel.store (ok : S.Ok) (h : Rel g own st a w) {r : Root} {p : Path} {b off : Nat} {cs0 : List Value} {c0 c : MV S.toNm} {cs : List Value} {st' : ST S}
    (hp : Place st own a w r p (some (b, off)) cs0 c0) (hO : S.OW w own (g.Z own w) .lim c.t c.m [] cs c.x) (hs : (st.killS r p).setAt r p c = some st') :
    (∃ cur e, w.heap[b]? = some (.cells cur e (0, 0))) ∧ (∃ own', Rel g own' st' a (putCells w b off cs)) := by
  obtain ⟨own1, h1, hO1, hnn, hkeep⟩ := lim_to (r := r) (p := p) h hO
  have hrl : r ≠ .lim := by rintro rfl; obtain ⟨_, _, _, _, _, _, _, h3, _⟩ := hp; exact h3
  have hp1 : Place st own1 a w r p (some (b, off)) cs0 c0 := Place_own hp rfl (fun _ _ => rfl) (fun k b _ hb => hkeep b _ _ (by simp) hb)
  obtain ⟨t, m, x, l0, csr, k1, k2, k3, k4, k5, k6⟩ := hp1
  have hroot : ∀ r', (st.killS r p).root r' = st.root r' := root_killS st r p
  obtain ⟨t1, m1, x1, n, z, s1, s2, s3⟩ := setAt_some hs
  rw [hroot, k1] at s1
  cases s1
  have hOr := root_OW ok h1 k1 k3
  obtain ⟨lab1, lab2⟩ := nav_lab t m p [] l0 csr x n z b off cs0 hOr k4 s2 k5
  -- whose the written block is
  have hblock : (∃ k, r = .mem k ∧ own1 b = some (.mem k, none) ∧ p.plain = true ∧ l0 = some (b, 0)) ∨ (p.plain = false ∧ ∃ q1 i q2, p = q1 ++ Step.idx i :: q2 ∧ own1 b = some (r, some q1)) := by
    cases hpl : p.plain with
    | true =>
      obtain ⟨off0, e⟩ := lab1 hpl
      cases r with
      | slot s => rw [k3.1] at e; cases e
      | lim => exact absurd rfl hrl
      | mem k =>
        obtain ⟨b', e', cl, f1, f2, f3, f4⟩ := k3
        rw [f1] at e; cases e
        exact .inl ⟨k, rfl, f2, rfl, f1⟩
    | false =>
      obtain ⟨q1, i, q2, e1, e2⟩ := lab2 hpl
      exact .inr ⟨rfl, q1, i, q2, e1, by simpa using e2⟩
  have hflag : ∃ cur e, w.heap[b]? = some (.cells cur e (0, 0)) := nav_flag t m p [] l0 csr x n z b off cs0 hOr k4 s2 k5 (fun b' off' he => by
    cases r with
    | slot s => rw [k3.1] at he; cases he
    | lim => exact absurd rfl hrl
    | mem k => obtain ⟨b'', e', cl, f1, f2, f3, f4⟩ := k3; rw [f1] at he; cases he; exact ⟨_, _, f3⟩)
  have hbo : ∃ q, own1 b = some (r, q) := by
    rcases hblock with ⟨k, rfl, e, _⟩ | ⟨_, q1, i, q2, _, e⟩
    · exact ⟨_, e⟩
    · exact ⟨_, e⟩
  obtain ⟨bq, hbq⟩ := hbo
  have hbZ : ¬ g.Z own1 w b := fun hz => by rw [hz.2.2] at hbq; cases hbq
  have hZe : g.Z own1 (putCells w b off cs) = g.Z own1 w := by funext b'; simp only [Gl.Z, putCells_size]
  have hne : ∀ b', own1 b' ≠ own1 b → (putCells w b off cs).heap[b']? = w.heap[b']? := fun b' hb' => putCells_ne (fun e => hb' (by rw [e]))
  have hZw : ∀ b', g.Z own1 w b' → (putCells w b off cs).heap[b']? = w.heap[b']? := fun b' hz => hne b' (by rw [hz.2.2, hbq]; simp)
  have hnew : S.OW (putCells w b off cs) own1 (g.Z own1 w) r c.t c.m ([] ++ p) cs c.x := by
    refine OW_frame (fun _ h => h) hZw _ _ _ _ _ _ (fun b' q hb' => ⟨hb', putCells_ne (fun e => ?_)⟩) hO1
    subst e
    rcases hblock with ⟨k, rfl, e, _⟩ | ⟨_, q1, i, q2, e1, e⟩
    · rw [e] at hb'; simp at hb'
    · rw [e] at hb'
      simp at hb'
      have := congrArg List.length (hb'.trans (by rw [e1]))
      simp at this
  obtain ⟨csr1, hO2, hW⟩ := OW_set ok (own' := own1) (Z' := g.Z own1 w) (fun _ h => h) hbZ t m p [] l0 csr x n z cs0 hOr k4 s2 k5 (fun q' hq' => by
    rcases hblock with ⟨k, rfl, e, _⟩ | ⟨_, q1, i, q2, e1, e⟩
    · rw [e] at hq'; simp at hq'
    · rw [e] at hq'
      simp at hq'
      subst hq'
      exact ⟨Step.idx i :: q2, by simp, e1⟩) (fun b' q' hb' _ => hb') hnew
  have root' : st'.root r = some ⟨t, n, z⟩ := by rw [s3, root_setRoot _ _ _ _ hrl, if_pos rfl]
  have rootne : ∀ r', r' ≠ r → st'.root r' = st.root r' := fun r' hne => by rw [s3, root_setRoot _ _ _ _ hrl, if_neg hne, hroot]
  have hlook : ∀ i, (∀ s, r = .slot s → i ≠ s) → st'.look i = .dead ∨ (st'.look i = st.look i ∧ (p.plain = true → (st.look i).hangs r = false) ∧ ((st.look i).deep = false ∨ (st.look i).rowIn r p = true)) := fun i hi => by
    have e : st'.look i = (st.killS r p).look i := by
      rw [s3]
      cases r with
      | slot s => rw [look_setSlot, if_neg (hi s rfl)]
      | mem k => rfl
      | lim => exact absurd rfl hrl
    rw [e]; exact look_killS st r p i
  have hRootNe : ∀ r', r' ≠ r → ∀ t l cs', RootAt own1 a w r' t l cs' → RootAt own1 a (putCells w b off cs) r' t l cs' := fun r' hr' t l cs' hR => by
    cases r' with
    | slot s => exact hR
    | lim => exact hR
    | mem k =>
      obtain ⟨b', e', cl, f1, f2, f3, f4⟩ := hR
      refine ⟨b', e', cl, f1, f2, ?_, f4⟩
      rw [hne b' (by rw [f2, hbq]; intro e; exact hr' (Prod.mk.inj (Option.some.inj e)).1)]; exact f3
  refine ⟨hflag, own1, h1.os, h1.tape, h1.output, by rw [putCells_size]; exact h1.size, fun b' hb' hio => ?_, fun b' hb' => by rw [putCells_size]; exact h1.fresh b' hb', fun i => ?_, fun k c' hk => ?_, h1.defs, h1.pins⟩
  · rw [putCells_ne]
    · exact h1.block b' hb' hio
    · intro e
      subst e
      rcases (h1.fresh b' (by rw [hbq]; simp)).1 with hf | hf
      · omega
      · exact hio hf
  · by_cases hi : ∃ s, r = .slot s ∧ i = s
    · obtain ⟨s, rfl, rfl⟩ := hi
      have : st'.look i = .v t n z := by rw [s3, look_setSlot, if_pos rfl]
      rw [this]
      have hpl : p.plain = false := by
        rcases hblock with ⟨k, e, _⟩ | ⟨e, _⟩
        · cases e
        · exact e
      have : csr1 = csr := by
        unfold Wrote at hW; rw [hpl] at hW; exact hW
      subst this
      exact ⟨csr1, k3.2, by rw [hZe]; exact hO2⟩
    · have hi' : ∀ s, r = .slot s → i ≠ s := fun s hs e => hi ⟨s, hs, e⟩
      rcases hlook i hi' with e | ⟨e, hh, hdp⟩
      · rw [e]; trivial
      · rw [e]
        have hv := h1.vals i
        generalize st.look i = A at *
        cases A with
        | dead => trivial
        | und => exact hv
        | v t' m'' y =>
          obtain ⟨cs', e1, e2⟩ := hv
          refine ⟨cs', e1, ?_⟩
          rw [hZe]
          refine OW_frame (fun _ h => h) hZw _ _ _ _ _ _ (fun b' q hb => ⟨hb, hne b' ?_⟩) e2
          rw [hb, hbq]; intro e; exact hi' i (Prod.mk.inj (Option.some.inj e)).1.symm rfl
        | tup t' m'' y =>
          obtain ⟨vs, e1, e2⟩ := hv
          exact ⟨vs, e1, by rw [hZe]; exact TupR_frame (fun _ h => h) hZw _ _ _ e2⟩
        | rp t' y =>
          obtain ⟨b', off', cs', e1, e2, e3, e4⟩ := hv
          exact ⟨b', off', cs', e1, by rw [hZe]; exact e2, by rw [cellsAt_same (hZw b' e2)]; exact e3, by rw [hZe]; exact e4.frame (fun _ h => h) hZw⟩
        | ref r' p' =>
          obtain ⟨l1, cs1, c1, e1, e2⟩ := hv
          rcases hdp with hdp | hdp
          rotate_left
          · obtain ⟨i1, j1, k1', rfl, e0⟩ := rowIn_eq hdp
            cases e0
            obtain ⟨t9, m9, x9, l9, cs9, q1, q2, q3, q4, q5, q6⟩ := e1
            rw [k1] at q1
            cases q1
            have hO9 := root_OW ok h1 k1 q3
            cases t with
            | slice et tt =>
              obtain ⟨hi1, hj1⟩ := k4
              obtain ⟨hk1, hk2⟩ := q4
              cases m with
              | own em =>
                simp only [Cx.setP] at s2
                split at s2
                rotate_left
                · cases s2
                rename_i n' z' hs'
                split at s2
                rotate_left
                · cases s2
                cases s2
                rename_i hem _
                subst hem
                rcases hO9 with ⟨_, rfl⟩ | ⟨bb, cc, cells, g1, g2, g3, g4, g5, g6, g7⟩
                · simp at hk1
                · have hbb : bb ≠ b := by
                    rintro rfl
                    rcases hOr with ⟨_, rfl⟩ | ⟨bb2, cc2, cells2, f1, f2, f3, f4, f5, f6, f7⟩
                    · simp at hi1
                    · have hcell := cellsAt_row f3 (show 0 + i1 * S.size tt + S.size tt ≤ cells2.size by rw [Nat.zero_add]; exact row_fits hi1 f4 f6)
                      rw [f1] at k5
                      simp only [Cx.nav, hcell] at k5
                      have hel := f7 i1 _ (getD_nth (l := x) (S.zero tt) hi1)
                      cases tt with
                      | slice e2 t2 =>
                        simp only [Cx.okP] at hj1
                        cases n' with
                        | own em2 =>
                          rw [Nat.zero_add] at k5
                          rcases hel with ⟨_, e5⟩ | ⟨b5, c5, cells5, y1, y2, y3, y4, y5, y6, y7⟩
                          · rw [e5] at hj1; simp at hj1
                          · rw [y1] at k5
                            simp only [Cx.nav] at k5
                            split at k5
                            · simp only [Option.some.injEq, Prod.mk.injEq] at k5
                              rw [k5.1.1] at y2
                              rw [g2] at y2
                              simp at y2
                            · cases k5
                        | _ => cases hs'
                      | _ => cases hs'
                  refine ⟨l1, cs1, ⟨tt, n', List.getD (List.set x i1 z') k1' (S.zero tt)⟩, ⟨_, _, _, l9, cs9, root', fun s hs => by simp, ?_, ⟨(by have e9 : List.length (List.set x i1 z') = List.length x := List.length_set; rw [e9]; exact hk1), okP_nil⟩, ?_, getP_nil (t := tt) (m := n') (x := List.getD (List.set x i1 z') k1' (S.zero tt))⟩, ?_⟩
                  · cases r with
                    | slot s => exact q3
                    | lim => exact absurd rfl hrl
                    | mem k =>
                      obtain ⟨b'', e, cl, f1, f2, f3, f4⟩ := q3
                      refine ⟨b'', e, cl, f1, f2, ?_, f4⟩
                      rw [putCells_ne]; exact f3
                      intro eb
                      subst eb
                      rcases hblock with ⟨k', _, _, e', _⟩ | ⟨_, _, _, _, _, e'⟩
                      · simp [plain_cons, Step.isIdx] at e'
                      · rw [f2] at e'; simp at e'
                  · rw [g1] at q5 ⊢
                    simp only [Cx.nav] at q5 ⊢
                    rw [cellsAt_same (putCells_ne hbb)]
                    exact q5
                  · simp only [Cx.getP] at q6
                    cases q6
                    exact e2
              | _ => cases s2
            | _ => cases s2
          have hpl : Path.plain p' = true := by simpa [AVal.deep] using hdp
          by_cases hne' : r' = r
          · subst hne'
            have hnp : p.plain = false := by
              cases e : p.plain with
              | false => rfl
              | true => have := hh e; simp [AVal.hangs] at this
            have hcs : csr1 = csr := by unfold Wrote at hW; rw [hnp] at hW; exact hW
            obtain ⟨t9, m9, x9, l9, cs9, q1, q2, q3, q4, q5, q6⟩ := e1
            rw [k1] at q1
            cases q1
            obtain ⟨m'', x'', hg⟩ := plain_getP _ p' _ _ c1 hpl q6 n z
            refine ⟨l1, cs1, ⟨c1.t, m'', x''⟩, ⟨t, n, z, l9, cs9, root', fun s hs => setP_own t m p x n z hnp s2, ?_, okP_plain _ p' _ z hpl q4, nav_any _ _ _ _ _ hpl q5, hg⟩, e2⟩
            cases r' with
            | slot s => exact q3
            | lim => exact absurd rfl hrl
            | mem k =>
              obtain ⟨b'', e, cl, f1, f2, f3, f4⟩ := q3
              refine ⟨b'', e, cl, f1, f2, ?_, f4⟩
              rw [putCells_ne]; exact f3
              intro eb
              subst eb
              rcases hblock with ⟨k', _, _, e', _⟩ | ⟨_, _, _, _, _, e'⟩
              · rw [e'] at hnp; cases hnp
              · rw [f2] at e'; simp at e'
          · exact ⟨l1, cs1, c1, Place_world e1 hpl (rootne r' hne') (hRootNe r' hne'), e2⟩
        | addr r' p' =>
          obtain ⟨b', off', cs1, c1, e1, e2⟩ := hv
          have hdp := hdp.resolve_right (fun h => by simp [AVal.rowIn] at h)
          have hpl : Path.plain p' = true := by simpa [AVal.deep] using hdp
          by_cases hne' : r' = r
          · subst hne'
            obtain ⟨cs2, c2, e3⟩ := e1.plain (own' := own1) (a' := a) (w' := putCells w b off cs) (st' := st') hpl k1 root' (fun l cs' hR => by
              cases r' with
              | slot s => exact ⟨cs', hR⟩
              | lim => exact absurd rfl hrl
              | mem k =>
                obtain ⟨b'', e, cl, f1, f2, f3, f4⟩ := hR
                by_cases hbb : b'' = b
                · subst hbb
                  exact ⟨_, b'', e, _, f1, f2, putCells_at f3, rfl⟩
                · exact ⟨_, b'', e, cl, f1, f2, by rw [putCells_ne hbb]; exact f3, f4⟩)
            exact ⟨b', off', cs2, c2, e3, e2⟩
          · exact ⟨b', off', cs1, c1, Place_world e1 hpl (rootne r' hne') (hRootNe r' hne'), e2⟩
        | fn g' cs' =>
          obtain ⟨vs, f1, f2⟩ := hv
          refine ⟨vs, f1, f2.mono fun c hcm v hc => ?_⟩
          cases c with
          | d t' y =>
            obtain ⟨b', off', cs', e1, e2, e3, e4⟩ := hc
            exact ⟨b', off', cs', e1, by rw [hZe]; exact e2, by rw [cellsAt_same (hZw b' e2)]; exact e3, by rw [hZe]; exact e4.frame (fun _ h => h) hZw⟩
          | m k =>
            obtain ⟨b', off', cs1, c1, e1, e2⟩ := hc
            by_cases hne' : Root.mem k = r
            · subst hne'
              obtain ⟨cs2, c2, e3⟩ := e1.plain (own' := own1) (a' := a) (w' := putCells w b off cs) (st' := st') rfl k1 root' (fun l cs' hR => by
                obtain ⟨b'', e, cl, f1, f2, f3, f4⟩ := hR
                by_cases hbb : b'' = b
                · subst hbb
                  exact ⟨_, b'', e, _, f1, f2, putCells_at f3, rfl⟩
                · exact ⟨_, b'', e, cl, f1, f2, by rw [putCells_ne hbb]; exact f3, f4⟩)
              exact ⟨b', off', cs2, c2, e3, e2⟩
            · exact ⟨b', off', cs1, c1, Place_world e1 rfl (rootne _ hne') (hRootNe _ hne'), e2⟩
  · by_cases hk' : r = .mem k
    · subst hk'
      have : c' = ⟨t, n, z⟩ := by
        have hk : st'.root (.mem k) = some c' := hk
        rw [root'] at hk; exact (Option.some.inj hk).symm
      subst this
      obtain ⟨bk, e, cells, g1, g2, g3, g4⟩ := h1.mems k _ k1
      obtain ⟨b', e', cl, f1, f2, f3, f4⟩ := k3
      have := g4 b' f2
      subst this
      rw [g2] at f3; cases f3; subst f4
      unfold MR
      rw [hZe]
      rcases hblock with ⟨k', e1, e2, hpl, e3⟩ | ⟨hpl, q1, i, q2, e1, e2⟩
      · cases e1
        rw [f1] at e3
        have e3 := (Prod.mk.inj (Option.some.inj e3)).1
        subst e3
        unfold Wrote at hW
        rw [hpl] at hW
        obtain ⟨off0, w1, w2, w3, w4⟩ := hW
        rw [f1] at w1
        cases w1
        rw [Nat.sub_zero] at w4
        refine ⟨_, e, _, g1, putCells_at g2, ?_, g4⟩
        simp only
        rw [← w4]; exact hO2
      · have hbb : b' ≠ b := fun e => by subst e; rw [g1] at e2; simp at e2
        unfold Wrote at hW
        rw [hpl] at hW
        subst hW
        exact ⟨b', e, cells, g1, by rw [putCells_ne hbb]; exact g2, hO2, g4⟩
    · have hk : st'.root (.mem k) = some c' := hk
      rw [rootne _ (Ne.symm hk')] at hk
      obtain ⟨b', e, cells, g1, g2, g3, g4⟩ := h1.mems k _ hk
      have hmr : own1 b' ≠ own1 b := by rw [g1, hbq]; intro e; exact hk' (Prod.mk.inj (Option.some.inj e)).1.symm
      unfold MR
      rw [hZe]
      refine ⟨b', e, cells, g1, by rw [hne b' hmr]; exact g2, OW_frame (fun _ h => h) hZw _ _ _ _ _ _ (fun b'' q hb => ⟨hb, hne b'' ?_⟩) g3, g4⟩
      rw [hb, hbq]; intro e; exact hk' (Prod.mk.inj (Option.some.inj e)).1.symm
theorem setRow_putCells {w : World} {b off : Nat} {cs : List Value} {cur : Array Value} {e : TypeId} {f : Nat × Nat} (h : w.heap[b]? = some (.cells cur e f)) :
    w.setRow b (cur.toList.take off ++ cs ++ cur.toList.drop (off + cs.length)).toArray = putCells w b off cs := by
  unfold World.setRow putCells
  congr 1
  apply Array.ext_getElem?
  intro i
  simp only [Array.getElem?_modify]
  by_cases hi : b = i
  · subst hi; simp [h, spl]
  · simp [hi]
theorem do_store {o : Oper} {e : TypeId} {x y : Operand} {hn : Hint} {κ π : ST S → Option α} {r : α} (ok : S.Ok) (T : TysOk g.P g.E) (h : Rel g own st a w) 
    (ho : o.op = .store e x y) (hκ : opK π g.E hn o st κ = some r) : Do g false o a w κ r := by
  simp only [opK, ho] at hκ
  split at hκ
  · rename_i c st' e1 e2
    obtain ⟨own', cs, h1, hVS, hO, hL, hl⟩ := takeS_ok ok g.E h e2 []
    have hv := av_ok g.E h1 x 0 0
    split at hκ
    · rename_i rt p ex
      rw [ex] at hv
      obtain ⟨b, off, cs0, c0, hp, v1⟩ := hv
      split at hκ
      · rename_i ht
        split at hκ
        · rename_i st'' e3
          obtain ⟨⟨cur, ee, hblk⟩, own'', hrel⟩ := h1.store ok hp hO e3
          have hcells : (a.eval y).cells = cs.toArray := VS_list hVS (OW_one hO hl)
          obtain ⟨ut, hut1, hut2, _⟩ := isB_lookup ht
          have tf := T _ _ hut1
          have hlen : cs.length = S.size c.t := OW_len ok _ _ _ _ _ hO
          obtain ⟨_, hcs0⟩ := hp.cells ok h1
          have hfit : off + 0 + cs.length ≤ cur.size := by
            have hc0 := hcs0 b off rfl
            obtain ⟨t, m, xx, n, z, s1, s2, s3⟩ := setAt_some e3
            have ht0 : c0.t = c.t := by
              obtain ⟨t0, m0, x0, l0, csr, k1, k2, k3, k4, k5, k6⟩ := hp
              have hroot : (st'.killS rt p).root rt = st'.root rt := root_killS st' rt p rt
              rw [hroot, k1] at s1
              cases s1
              exact setP_type _ _ _ _ _ _ () s2 k6
            rw [ht0] at hc0
            unfold cellsAt at hc0
            rw [hblk] at hc0
            simp only at hc0
            split at hc0
            · omega
            · cases hc0
          have hrun := run_storeCells_at (P := g.P) b off ee cs 0 cur w hblk hfit (OW_one hO hl)
          rw [Nat.add_zero, setRow_putCells hblk] at hrun
          intro Q
          unfold Oper.wp
          have : (execOp a.eval o).run g.P w = .ok .skip (putCells w b off cs) := by
            simp only [execOp, ho, v1, Instr.storeAt, Instr.sureAddr, storeVar, pure_bind, Sem.run_bind, tf.size w, hut2, Result.andThen_ok, hcells]
            rw [if_neg (by rw [List.size_toArray, hlen]; simp)]
            simp only [hrun, Result.andThen_ok]
            rfl
          rw [this]
          refine ⟨own'', st'', ?_, hκ, by rw [e1]; rfl, fun h => by cases h⟩
          rw [e1]
          exact hrel
        · cases hκ
      · cases hκ
    · cases hκ
  · cases hκ
  where
  setP_type {t' : Ty} {m' : Mode} {y : S.den t'} {c : MV S.toNm} : ∀ (t : Ty) (m : Mode) (q : Path) (x : S.den t) (n : Mode) (z : S.den t) (u : Unit), S.setP t' m' y t m q x = some (n, z) → S.getP t m q x = some c → c.t = t' := by
    intro t
    induction t with
    | slice e t ih =>
      intro m q x n z _ hs hg
      cases q with
      | nil =>
        cases hg
        simp only [Cx.setP] at hs
        split at hs
        · rename_i z' hz; exact (cast_some hz).1.symm
        · cases hs
      | cons s q => cases s with
        | idx i =>
          cases m with
          | own e =>
            simp only [Cx.setP] at hs
            split at hs
            · rename_i n' z' hs'
              exact ih _ q _ n' z' () hs' hg
            · cases hs
          | _ => cases hs
        | _ => cases hg
    | pair a b iha ihb =>
      intro m q x n z _ hs hg
      cases q with
      | nil =>
        cases hg
        simp only [Cx.setP] at hs
        split at hs
        · rename_i z' hz; exact (cast_some hz).1.symm
        · cases hs
      | cons s q => cases s with
        | fst =>
          simp only [Cx.setP] at hs
          split at hs
          · rename_i n' z' hs'
            exact iha _ q _ n' z' () hs' hg
          · cases hs
        | snd =>
          simp only [Cx.setP] at hs
          split at hs
          · rename_i n' z' hs'
            exact ihb _ q _ n' z' () hs' hg
          · cases hs
        | _ => cases hg
    | agg t ih =>
      intro m q x n z _ hs hg
      cases q with
      | nil =>
        cases hg
        simp only [Cx.setP] at hs
        split at hs
        · rename_i z' hz; exact (cast_some hz).1.symm
        · cases hs
      | cons s q => cases s with
        | inn =>
          simp only [Cx.setP] at hs
          split at hs
          · rename_i n' z' hs'
            exact ih _ q _ n' z' () hs' hg
          · cases hs
        | _ => cases hg
    | arr k t ih =>
      intro m q x n z _ hs hg
      cases q with
      | nil =>
        cases hg
        simp only [Cx.setP] at hs
        split at hs
        · rename_i z' hz; exact (cast_some hz).1.symm
        · cases hs
      | cons s q => cases s with
        | el i =>
          obtain ⟨rfl, rfl, z', hs', rfl⟩ := setP_el hs
          exact ih _ q _ .ro z' () hs' (getP_el hg)
        | _ => cases hg
    | _ =>
      intro m q x n z _ hs hg
      cases q with
      | nil =>
        cases hg
        simp only [Cx.setP] at hs
        split at hs
        · rename_i z' hz; exact (cast_some hz).1.symm
        · cases hs
      | cons s q => cases s <;> cases hg
end
end Go.Proofs.Ytdnkjfmneppkoaa.Vm
namespace Go.Proofs.Ytdnkjfmneppkoaa.Vm
open Go Go.RowKit
set_option linter.unusedVariables false
section
variable {S : Cx} {α : Type} {g : Gl S} {own : Nat → Option Own} {st : ST S} {a : Act} {w : World}
theorem overlay (off : Nat) : ∀ (l : List Value) (k : Nat) (cells : Array Value), off + k + l.length ≤ cells.size →
    ((l.zipIdx k).foldl (fun cs (c, j) => cs.setIfInBounds (off + j) c) cells).toList = spl cells.toList (off + k) l := by
  intro l
  induction l with
  | nil => intro k cells h; simp [spl]
  | cons v l ih =>
    intro k cells h
    rw [List.zipIdx_cons, List.foldl_cons]
    have hs : (cells.setIfInBounds (off + k) v).size = cells.size := by simp
    have hlen : (v :: l).length = l.length + 1 := rfl
    rw [ih (k + 1) _ (by rw [hs]; omega)]
    apply List.ext_getElem?
    intro i
    simp only [spl, Array.toList_setIfInBounds, List.getElem?_append, List.length_take, List.length_set, Array.length_toList, List.getElem?_take, List.getElem?_set, List.getElem?_drop, List.length_append, List.length_cons]
    rw [show min (off + (k + 1)) cells.size = off + k + 1 by omega, show min (off + k) cells.size = off + k by omega]
    by_cases h1 : i < off + k
    · simp [h1, show i < off + k + 1 + l.length by omega, show i < off + k + 1 by omega, show i < off + k + (l.length + 1) by omega, show i < off + (k + 1) by omega, show ¬ off + k = i by omega]
    · by_cases h2 : i = off + k
      · subst h2
        simp [show off + k < off + k + 1 + l.length by omega, show off + k < off + (k + 1) by omega, show off + k < cells.size by omega]
      · by_cases h3 : i < off + k + 1 + l.length
        · simp [h1, h3, show ¬ i < off + k + 1 by omega, show i < off + k + (l.length + 1) by omega]
          rw [show i - (off + k) = (i - (off + k + 1)) + 1 by omega, List.getElem?_cons_succ]
        · simp only [h3, if_false, show ¬ i < off + k + (l.length + 1) by omega]
          simp [show ¬ off + k = off + (k + 1) + l.length + (i - (off + k + 1 + l.length)) by omega]
          congr 1; omega
theorem fill_step {place : Nat → Option (Nat × Nat)} {cs : List Value} {i : Nat} {v : Value} {ps : List (Nat × Value)} {off size : Nat} {new : List Value}
    (h1 : place i = some (off, size)) (h2 : v.cells = new.toArray) (h3 : new.length = size) (h4 : off + size ≤ cs.length) :
    Instr.fill place cs.toArray ((i, v) :: ps) = Instr.fill place (spl cs off new).toArray ps := by
  simp only [Instr.fill, h1, h2]
  have e1 : new.toArray.size = size := by rw [List.size_toArray, h3]
  have e2 : cs.toArray.size = cs.length := List.size_toArray
  rw [if_neg (by rw [Bool.or_eq_true, decide_eq_true_eq, decide_eq_true_eq]; omega)]
  congr 1
  apply Array.ext'
  have := overlay off new 0 cs.toArray (by rw [List.size_toArray]; omega)
  simpa using this
theorem OW_fill (ok : S.Ok) {own' : Nat → Option Own} {Z Z' : Nat → Prop} {r : Root} {t' : Ty} {m' : Mode} {y : S.den t'} {new : List Value} (hZ : ∀ b, Z b → Z' b) :
    ∀ (t : Ty) (m : Mode) (q p : Path) (o0 o : Nat) (cs : List Value) (x : S.den t) (n : Mode) (z : S.den t) (cs0 : List Value), q.plain = true →
    S.OW w own Z r t m p cs x → S.setP t' m' y t m q x = some (n, z) → S.nav w t (some (0, o0)) cs q = some (some (0, o), cs0) → new.length = cs0.length →
    (∀ b' q', own b' = some (r, some (p ++ q')) → (¬ ∃ s, q' = q ++ s) → own' b' = some (r, some (p ++ q'))) →
    S.OW w own' Z' r t' m' (p ++ q) new y → S.OW w own' Z' r t n p (spl cs (o - o0) new) z ∧ o0 ≤ o ∧ o - o0 + new.length ≤ cs.length := by
  intro t
  induction t with
  | slice e t ih =>
    intro m q p o0 o cs x n z cs0 hp h hs hn hlen hkeep hnew
    cases q with
    | nil =>
      cases hn
      simp only [Cx.setP] at hs
      split at hs
      · rename_i z' hz
        cases hs
        obtain ⟨e', rfl⟩ := cast_some hz
        subst e'
        rw [Nat.sub_self, spl_all (by omega)]
        exact ⟨by simpa using hnew, Nat.le_refl _, by omega⟩
      · cases hs
    | cons s q => cases s with
      | idx i => simp [plain_cons, Step.isIdx] at hp
      | _ => cases hn
  | pair a b2 iha ihb =>
    intro m q p o0 o cs x n z cs0 hp h hs hn hlen hkeep hnew
    cases q with
    | nil =>
      cases hn
      simp only [Cx.setP] at hs
      split at hs
      · rename_i z' hz
        cases hs
        obtain ⟨e', rfl⟩ := cast_some hz
        subst e'
        rw [Nat.sub_self, spl_all (by omega)]
        exact ⟨by simpa using hnew, Nat.le_refl _, by omega⟩
      · cases hs
    | cons s q =>
      obtain ⟨c1, c2, rfl, h2, h3, h4⟩ := OW_pair h
      cases s with
      | fst =>
        simp only [Cx.setP] at hs
        split at hs
        · rename_i n' z' hs'
          cases hs
          have hn' : S.nav w a (some (0, o0)) c1 q = some (some (0, o), cs0) := by
            simp only [Cx.nav, ← h2, List.take_left'] at hn
            simpa using hn
          obtain ⟨i1, i2, i3⟩ := iha m.fst q (p ++ [Step.fst]) o0 o c1 x.1 n' z' cs0 (by simpa [plain_cons, Step.isIdx] using hp) h3 hs' hn' hlen (fun b' q' hb' hno => by
            have := hkeep b' (Step.fst :: q') (by simpa using hb') (by rintro ⟨s, hs⟩; exact hno ⟨s, by simpa using hs⟩)
            simpa using this) (by simpa using hnew)
          have h4' : S.OW w own' Z' r b2 m.snd (p ++ [Step.snd]) c2 x.2 := by
            refine OW_frame hZ (fun _ _ => rfl) b2 m.snd (p ++ [Step.snd]) (p ++ [Step.snd]) _ _ (fun b' q' hb' => ⟨?_, rfl⟩) h4
            have := hkeep b' (Step.snd :: q') (by simpa using hb') (by rintro ⟨s, hs⟩; simp at hs)
            simpa using this
          refine ⟨?_, i2, by rw [List.length_append]; omega⟩
          rw [spl_left i3]
          exact OW_pair_mk (OW_len ok _ _ _ _ _ i1) i1 h4'
        · cases hs
      | snd =>
        simp only [Cx.setP] at hs
        split at hs
        · rename_i n' z' hs'
          cases hs
          have hn' : S.nav w b2 (some (0, o0 + S.size a)) c2 q = some (some (0, o), cs0) := by
            simp only [Cx.nav] at hn
            simpa [← h2] using hn
          obtain ⟨i1, i2, i3⟩ := ihb m.snd q (p ++ [Step.snd]) (o0 + S.size a) o c2 x.2 n' z' cs0 (by simpa [plain_cons, Step.isIdx] using hp) h4 hs' hn' hlen (fun b' q' hb' hno => by
            have := hkeep b' (Step.snd :: q') (by simpa using hb') (by rintro ⟨s, hs⟩; exact hno ⟨s, by simpa using hs⟩)
            simpa using this) (by simpa using hnew)
          have h3' : S.OW w own' Z' r a m.fst (p ++ [Step.fst]) c1 x.1 := by
            refine OW_frame hZ (fun _ _ => rfl) a m.fst (p ++ [Step.fst]) (p ++ [Step.fst]) _ _ (fun b' q' hb' => ⟨?_, rfl⟩) h3
            have := hkeep b' (Step.fst :: q') (by simpa using hb') (by rintro ⟨s, hs⟩; simp at hs)
            simpa using this
          refine ⟨?_, by omega, by rw [List.length_append]; omega⟩
          rw [show o - o0 = c1.length + (o - (o0 + S.size a)) by omega, spl_right]
          exact OW_pair_mk h2 h3' i1
        · cases hs
      | _ => cases hn
  | agg t ih =>
    intro m q p o0 o cs x n z cs0 hp h hs hn hlen hkeep hnew
    cases q with
    | nil =>
      cases hn
      simp only [Cx.setP] at hs
      split at hs
      · rename_i z' hz
        cases hs
        obtain ⟨e', rfl⟩ := cast_some hz
        subst e'
        rw [Nat.sub_self, spl_all (by omega)]
        exact ⟨by simpa using hnew, Nat.le_refl _, by omega⟩
      · cases hs
    | cons s q =>
      cases s with
      | inn =>
        simp only [Cx.setP] at hs
        split at hs
        · rename_i n' z' hs'
          cases hs
          obtain ⟨i1, i2, i3⟩ := ih m q (p ++ [Step.inn]) o0 o cs x n z cs0 (by simpa [plain_cons, Step.isIdx] using hp) (OW_agg.1 h) hs' hn hlen (fun b' q' hb' hno => by
            have := hkeep b' (Step.inn :: q') (by simpa using hb') (by rintro ⟨s, hs⟩; exact hno ⟨s, by simpa using hs⟩)
            simpa using this) (by simpa using hnew)
          exact ⟨OW_agg.2 i1, i2, i3⟩
        · cases hs
      | _ => cases hn
  | arr k t ih =>
    intro m q p o0 o cs x n z cs0 hp h hs hn hlen hkeep hnew
    cases q with
    | nil =>
      cases hn
      simp only [Cx.setP] at hs
      split at hs
      · rename_i z' hz
        cases hs
        obtain ⟨e', rfl⟩ := cast_some hz
        subst e'
        rw [Nat.sub_self, spl_all (by omega)]
        exact ⟨by simpa using hnew, Nat.le_refl _, by omega⟩
      · cases hs
    | cons s q =>
      cases s with
      | el i =>
        obtain ⟨rfl, rfl, z', hs', rfl⟩ := setP_el hs
        obtain ⟨hi, hn⟩ := nav_el hn
        obtain ⟨h1, h2, h3⟩ := Cx.R_arr.1 (OW_ro.1 h)
        have hix : i < x.length := h1.symm ▸ hi
        have hfit : i * S.size t + S.size t ≤ cs.length := by
          rw [h2]; exact row_fits hi (Nat.le_refl _) rfl
        have hpl := el_len h2 hi
        obtain ⟨i1, i2, i3⟩ := ih .ro q (p ++ [Step.el i]) (o0 + i * S.size t) o _ _ .ro z' cs0 (by simpa [plain_cons, Step.isIdx] using hp) (OW_ro.2 (h3 i _ (getD_nth (l := x) (S.zero t) hix))) hs' hn hlen (fun b' q' hb' hno => by
          have := hkeep b' (Step.el i :: q') (by simpa using hb') (by rintro ⟨s, hs⟩; exact hno ⟨s, by simpa using hs⟩)
          simpa using this) (by simpa using hnew)
        rw [hpl] at i3
        have hlen' : List.length (List.set x i z') = k := (List.length_set : List.length (List.set x i z') = List.length x).trans h1
        refine ⟨OW_ro.2 (Cx.R_arr.2 ⟨hlen', by rw [spl_len (by omega)]; exact h2, fun j u hu => ?_⟩), by omega, by omega⟩
        by_cases hji : j = i
        · subst hji
          have hu' : u = z' := by
            have hat : nth (List.set x j z') j = some z' := nth_set_self hix
            rw [hat] at hu; exact (Option.some.inj hu).symm
          subst hu'
          have := spl_piece (cs := cs) (new := new) (at_ := j * S.size t) (n := S.size t) (off := o - o0 - j * S.size t) (by omega) hfit
          rw [show j * S.size t + (o - o0 - j * S.size t) = o - o0 by omega, show o - o0 - j * S.size t = o - (o0 + j * S.size t) by omega] at this
          rw [this]; exact OW_ro.1 i1
        · have hu' : nth x j = some u := by
            have : nth (List.set x i z') j = nth x j := nth_set_ne hji
            rw [← this]; exact hu
          have := spl_apart (cs := cs) (new := new) (at_ := j * S.size t) (n := S.size t) (off := o - o0) (by
            rcases Nat.lt_or_gt_of_ne hji with hlt | hgt
            · left
              have : (j + 1) * S.size t ≤ i * S.size t := Nat.mul_le_mul_right _ hlt
              rw [Nat.succ_mul] at this; omega
            · right
              have : (i + 1) * S.size t ≤ j * S.size t := Nat.mul_le_mul_right _ hgt
              rw [Nat.succ_mul] at this; omega) (by omega)
          rw [this]; exact (h3 j u hu').frame hZ (fun _ _ => rfl)
      | _ => cases hn
  | _ =>
    intro m q p o0 o cs x n z cs0 hp h hs hn hlen hkeep hnew
    cases q with
    | nil =>
      cases hn
      simp only [Cx.setP] at hs
      split at hs
      · rename_i z' hz
        cases hs
        obtain ⟨e', rfl⟩ := cast_some hz
        subst e'
        rw [Nat.sub_self, spl_all (by omega)]
        exact ⟨by simpa using hnew, Nat.le_refl _, by omega⟩
      · cases hs
    | cons s q => cases s <;> cases hn
theorem fields_places {P : Program} {E : Env S} (T : TysOk P E) : ∀ (fs : List Field) (u : Ty) (o : Nat), FieldsOk S E fs u o →
    ∃ places : List (Nat × Nat), fs.mapM (fun f => (P.info? f.type).map fun i => (f.offset, i.size)) = some places ∧
      ∀ (i : Nat) (f : Field) (tf : Ty), fs[i]? = some f → E.tys.lookup f.type = some tf → places[i]? = some (f.offset, S.size tf) := by
  have key : ∀ fs : List Field, (∀ f ∈ fs, ∃ tf, E.tys.lookup f.type = some tf) → ∃ places : List (Nat × Nat), fs.mapM (fun f => (P.info? f.type).map fun i => (f.offset, i.size)) = some places ∧
      ∀ (i : Nat) (f : Field) (tf : Ty), fs[i]? = some f → E.tys.lookup f.type = some tf → places[i]? = some (f.offset, S.size tf) := by
    intro fs
    induction fs with
    | nil => intro _; exact ⟨[], rfl, fun i f tf h => by simp at h⟩
    | cons f fs ih =>
      intro h
      obtain ⟨tf, hf⟩ := h f (by simp)
      obtain ⟨places, h1, h2⟩ := ih fun f hf => h f (by simp [hf])
      obtain ⟨i, z, e1, e2, _⟩ := (T _ _ hf).info
      refine ⟨(f.offset, i.size) :: places, ?_, ?_⟩
      · simp [List.mapM_cons, e1, h1]
      · intro j f' tf' hj hl
        cases j with
        | zero =>
          simp at hj
          subst hj
          rw [hf] at hl; cases hl
          simp [e2]
        | succ j => simpa using h2 j f' tf' (by simpa using hj) hl
  intro fs u o h
  refine key fs ?_
  have : ∀ (fs : List Field) (u : Ty) (o : Nat), FieldsOk S E fs u o → ∀ f ∈ fs, ∃ tf, E.tys.lookup f.type = some tf := by
    intro fs
    induction fs with
    | nil => intro u o h f hf; cases hf
    | cons f0 fs ih =>
      intro u o h f hf
      cases fs with
      | nil =>
        cases u with
        | pair a b => exact (h : False).elim
        | _ =>
          obtain ⟨h1, h2, h3⟩ := h
          simp at hf
          subst hf
          exact ⟨_, h2⟩
      | cons f1 fs =>
        cases u with
        | pair a b =>
          obtain ⟨h1, h2, h3, h4⟩ := h
          rcases List.mem_cons.1 hf with rfl | hf
          · exact ⟨_, h2⟩
          · exact ih _ _ h4 f hf
        | _ => exact (h : False).elim
  exact this fs u o h
theorem partPath_some {t : Ty} {f : Nat} {p : Path} (h : partPath t f = some p) : ∃ u q, t = .agg u ∧ p = Step.inn :: q ∧ partGo u f = some q := by
  cases t with
  | agg u =>
    simp only [partPath] at h
    split at h
    · rename_i q hq; cases h; exact ⟨u, q, rfl, rfl, hq⟩
    · cases h
  | _ => cases h
def PartsAt (S : Cx) (u : Ty) (place : Nat → Option (Nat × Nat)) : Prop := ∀ (i : Nat) (q : Path), partGo u i = some q →
  ∃ off tf, place i = some (off, S.size tf) ∧ q.plain = true ∧
    (∀ w l cs, ∃ cs', S.nav w u l cs q = some (l.map (fun x => (x.1, x.2 + off)), cs') ∧ (cs.length = S.size u → cs' = (cs.drop off).take (S.size tf))) ∧
    (∀ m x, ∃ m' x', S.getP u m q x = some ⟨tf, m', x'⟩)
theorem parts_struct {E : Env S} {u : Ty} {fs : List Field} {place : Nat → Option (Nat × Nat)} (hf : FieldsOk S E fs u 0)
    (hpl : ∀ (i : Nat) (f : Field) (tf : Ty), fs[i]? = some f → E.tys.lookup f.type = some tf → place i = some (f.offset, S.size tf)) (hu : ∀ n v, u ≠ .arr n v) : PartsAt S u place := by
  intro i q hq
  have hq' : fieldGo u i = some q := by
    cases u with
    | arr n v => exact absurd rfl (hu n v)
    | _ => exact hq
  obtain ⟨fd, tf, f1, f2, f3, f4, f5, f6, f7⟩ := field_nav fs u 0 i q hf hq'
  exact ⟨fd.offset, tf, hpl i fd tf f1 f3, f5, fun w l cs => by
    obtain ⟨cs', n1, n2⟩ := f6 w l cs
    exact ⟨cs', by simpa using n1, by simpa using n2⟩, f7⟩
theorem parts_array {n : Nat} {v : Ty} : PartsAt S (.arr n v) (fun i => some (i * S.size v, S.size v)) := by
  intro i q hq
  simp only [partGo] at hq
  split at hq
  · rename_i hi
    cases hq
    have hi := of_decide_eq_true hi
    refine ⟨i * S.size v, v, rfl, rfl, fun w l cs => ⟨(cs.drop (i * S.size v)).take (S.size v), ?_, fun _ => rfl⟩, fun m x => ⟨m.elem, List.getD x i (S.zero v), ?_⟩⟩
    · rw [nav_el_eq hi, nav_nil]
    · rw [getP_el_eq, getP_nil]
  · cases hq
theorem build_ok (ok : S.Ok) {E : Env S} {u : Ty} {place : Nat → Option (Nat × Nat)} (hpa : PartsAt S u place) :
    ∀ (ps : List (Nat × Operand)) (m : Mode) (x : S.den (.agg u)) (own : Nat → Option Own) (st st' : ST S) (cs : List Value) (c : MV S.toNm), Rel g own st a w →
    S.OW w own (g.Z own w) .lim (.agg u) m [] cs x → buildGo E ps (.agg u) m x st = some (c, st') →
    ∃ own' cs', Rel g own' st' a w ∧ c.t = .agg u ∧ S.OW w own' (g.Z own' w) .lim c.t c.m [] cs' c.x ∧
      Instr.fill place cs.toArray (ps.map fun p => (p.1, a.eval p.2)) = some cs'.toArray := by
  intro ps
  induction ps with
  | nil =>
    intro m x own st st' cs c h hO hb
    cases hb
    exact ⟨own, cs, h, rfl, hO, rfl⟩
  | cons p ps ih =>
    intro m x own st st' cs c h hO hb
    obtain ⟨i, o⟩ := p
    simp only [buildGo] at hb
    split at hb
    · cases hb
    · rename_i q hq
      obtain ⟨u', q', e1, rfl, hq'⟩ := partPath_some hq
      cases e1
      split at hb
      · cases hb
      · rename_i c0 hg
        obtain ⟨off, tf, hpi, f5, f6, f7⟩ := hpa i q' hq'
        have hl : cs.length = S.size u := OW_len ok _ _ _ _ _ (OW_agg.1 hO)
        obtain ⟨cs0, n1, n2⟩ := f6 w (some (0, 0)) cs
        have hg' : S.getP u m q' x = some c0 := hg
        obtain ⟨m2, x2, hg2⟩ := f7 m x
        rw [hg'] at hg2
        cases hg2
        obtain ⟨hcl, _⟩ := nav_cells u q' m x none cs none cs0 _ hl (fun b off he => by cases he) (by
          obtain ⟨cs0', n1', n2'⟩ := f6 w none cs
          rw [n2 hl, ← n2' hl]; exact n1') hg'
        have n1' : S.nav w (.agg u) (some (0, 0)) cs (Step.inn :: q') = some (some (0, off), cs0) := by
          simp only [Cx.nav]; rw [n1]; simp
        have step : ∀ (own1 : Nat → Option Own) (st1 : ST S) (cc : MV S.toNm) (new : List Value) (n : Mode) (z : S.den (.agg u)), Rel g own1 st1 a w → Lasts own own1 →
            S.OW w own1 (g.Z own1 w) .lim cc.t cc.m (Step.inn :: q') new cc.x → VS cc.t (a.eval o) new → cc.m.live = true → cc.t = tf →
            S.setP cc.t cc.m cc.x (.agg u) m (Step.inn :: q') x = some (n, z) → buildGo E ps (.agg u) n z st1 = some (c, st') →
            ∃ own' cs', Rel g own' st' a w ∧ c.t = .agg u ∧ S.OW w own' (g.Z own' w) .lim c.t c.m [] cs' c.x ∧
              Instr.fill place cs.toArray (((i, o) :: ps).map fun p => (p.1, a.eval p.2)) = some cs'.toArray := by
          intro own1 st1 cc new n z h1 hL hOn hVS hlive htf hs hb
          have hnl : new.length = S.size tf := by rw [OW_len ok _ _ _ _ _ hOn, htf]
          obtain ⟨i1, i2, i3⟩ := OW_fill (w := w) ok (own := own) (own' := own1) (Z := g.Z own w) (Z' := g.Z own1 w) (r := .lim) (y := cc.x) (new := new) (fun b hb => hL.Z hb) (.agg u) m (Step.inn :: q') [] 0 off cs x n z cs0
            (by simp [plain_cons, Step.isIdx, f5]) hO hs n1' (by rw [hnl, hcl]) (fun b' q'' hb' _ => hL.lim b' _ hb') (by simpa using hOn)
          obtain ⟨own', cs', j1, j2, j3, j4⟩ := ih n z own1 st1 st' _ c h1 i1 hb
          refine ⟨own', cs', j1, j2, j3, ?_⟩
          rw [List.map_cons]
          rw [Nat.sub_zero] at i3 j4
          rw [fill_step hpi (VS_list hVS (OW_one hOn hlive)) hnl (by rw [hnl] at i3; exact i3)]
          exact j4
        split at hb
        · rename_i v tc htc
          split at hb
          · cases hb
          · rename_i y hy
            split at hb
            · rename_i n z hs
              obtain ⟨new, k1, k2⟩ := lit_ok (g := g) (own := own) (w := w) hy
              exact step own st ⟨_, .ro, y⟩ new n z h .refl (OW_ro.2 k2) k1 rfl rfl hs hb
            · cases hb
        · split at hb
          · cases hb
          · rename_i cc st1 ht
            split at hb
            · rename_i n z hs
              obtain ⟨own1, new, k1, k2, k3, k4, k5⟩ := takeT_ok ok E h ht (Step.inn :: q')
              have htt := do_store.setP_type (S := S) _ _ _ _ _ _ () hs hg
              exact step own1 st1 cc new n z k1 k4 k3 k2 k5 htt.symm hs hb
            · cases hb
theorem rd_build {o : Oper} {e : TypeId} {ps : Array (Nat × Operand)} {hn : Hint} {κ π : ST S → Option α} {r : α} (ok : S.Ok) (T : TysOk g.P g.E) (h : Rel g own st a w) (hd : ∀ d, o.dst = some d → d < a.tmps.size)
    (ho : o.op = .build e ps) (hκ : opK π g.E hn o st κ = some r) : Rd g o a w κ r := by
  simp only [opK, ho] at hκ
  split at hκ
  · rename_i u e1
    split at hκ
    · rename_i c st' e2
      have tf := T _ _ e1
      obtain ⟨i, z, hi, hsz, hz, hVz, _⟩ := tf.info
      have hzc : z.cells = (zc (.agg u)).toArray := VS_list hVz (R_zc (S := S) (w := w) (Z := fun _ => True) _ (tf.named rfl)).one
      have hO0 : S.OW w own (g.Z own w) .lim (.agg u) (buildMode hn o.dst u) [] (zc (.agg u)) (S.zero (.agg u)) := by
        unfold buildMode; split; exact OW_zc ok (.agg u) _ [] (tf.named rfl); exact OW_ro.2 (R_zc _ (tf.named rfl))
      rcases tf.und with ⟨fs, hu, hf⟩ | ⟨n, v, ee, rfl, hu, hl, hpos⟩
      · obtain ⟨places, hm, hp⟩ := fields_places T fs.toList u 0 hf
        have hna : ∀ n v, u ≠ .arr n v := fun n v e => by
          subst e
          match hfs : fs.toList, hf with
          | [f], hf => exact (T _ _ hf.2.1).und
          | [], hf => exact hf
          | _ :: _ :: _, hf => exact hf
        obtain ⟨own', cs', h1, ht, hO, hfill⟩ := build_ok (place := (places.toArray[·]?)) ok (parts_struct hf (fun i f tf a b => by simpa using hp i f tf a b) hna) ps.toList _ _ own st st' (zc (.agg u)) c h hO0 e2
        have hVS : VS c.t (.agg cs'.toArray) cs' := by rw [ht]; rfl
        refine rd_lim hn (c := c) h1 hd (fun w' _ => ?_) hVS hO hκ
        simp only [execOp, ho]
        refine run_v (run_build w' e _ cs'.toArray ?_)
        simp only [Program.built, hi, hu, hz, hm, hzc]
        simpa using hfill
      · obtain ⟨ie, _, i1, i2, _⟩ := (T _ _ hl).info
        obtain ⟨own', cs', h1, ht, hO, hfill⟩ := build_ok (place := fun i => some (i * S.size v, S.size v)) ok parts_array ps.toList _ _ own st st' (zc (.agg (.arr n v))) c h hO0 e2
        have hVS : VS c.t (.agg cs'.toArray) cs' := by rw [ht]; rfl
        refine rd_lim hn (c := c) h1 hd (fun w' _ => ?_) hVS hO hκ
        simp only [execOp, ho]
        refine run_v (run_build w' e _ cs'.toArray ?_)
        simp only [Program.built, hi, hu, hz, i1, i2, hzc]
        simpa using hfill
    · cases hκ
  · cases hκ
theorem Rel.newRow (h : Rel g own st a w) (o : Obj) (q : Option Path) : ∃ own', own' w.heap.size = some (.lim, q) ∧ Rel g own' st a (w.alloc o) ∧
    (∀ b, g.Z own w b → g.Z own' (w.alloc o) b) ∧ (∀ b r q, own b = some (r, q) → own' b = some (r, q)) := by
  have hbel : Below w.heap.size w (w.alloc o) := (Below.refl _ w).alloc (Nat.le_refl _) _
  let own2 : Nat → Option Own := fun b => if b = w.heap.size then some (.lim, q) else own b
  have o_old : ∀ b, b < w.heap.size → own2 b = own b := fun b hb => by
    have : b ≠ w.heap.size := by omega
    simp [own2, this]
  have o_some : ∀ b r q, own b = some (r, q) → own2 b = some (r, q) := fun b r q hb => by
    rw [o_old b (h.fresh b (by rw [hb]; simp)).2, hb]
  have o_mem' : ∀ k b, own2 b = some (.mem k, none) → own b = some (.mem k, none) := fun k b hb => by
    simp only [own2] at hb
    split at hb
    · simp at hb
    · exact hb
  have hZ : ∀ b, g.Z own w b → g.Z own2 (w.alloc o) b := fun b hb => ⟨hb.1, by rw [alloc_size]; have := hb.2.1; omega, by rw [o_old b hb.2.1]; exact hb.2.2⟩
  have hZw : ∀ b, g.Z own w b → (w.alloc o).heap[b]? = w.heap[b]? := fun b hb => hbel.block b hb.2.1
  have hlt : ∀ b, own b ≠ none → b < w.heap.size := fun b hb => (h.fresh b hb).2
  have h2 := h.keep hbel
  have hplace : ∀ {r p l cs' c'}, Place st own a w r p l cs' c' → Place st own2 a (w.alloc o) r p l cs' c' := fun hp =>
    Place_own (Place_keep hbel.block hp) rfl (fun _ _ => rfl) (fun k b he hb => o_some b _ _ hb)
  have hOW : ∀ {r : Root} {t : Ty} {m : Mode} {p : Path} {cs' : List Value} {x : S.den t}, S.OW w own (g.Z own w) r t m p cs' x →
      S.OW (w.alloc o) own2 (g.Z own2 (w.alloc o)) r t m p cs' x := fun hO => OW_frame hZ hZw _ _ _ _ _ _ (fun b q hb => ⟨o_some b _ _ hb, hbel.block b (hlt b (by rw [hb]; simp))⟩) hO
  refine ⟨own2, by simp [own2], ?_, hZ, o_some⟩
  refine ⟨h2.os, h2.tape, h2.output, h2.size, h2.block, fun b hb => ?_, fun i => ?_, fun k c' hk => ?_, h2.defs, fun k b b' hp hb => h.pins k b b' hp (o_mem' k b' hb)⟩
  · by_cases hbn : b = w.heap.size
    · subst hbn
      exact ⟨.inl h.size, by rw [alloc_size]; omega⟩
    · have : own b ≠ none := fun e => hb (by simp [own2, hbn, e])
      exact ⟨(h.fresh b this).1, by rw [alloc_size]; have := (h.fresh b this).2; omega⟩
  · have hv := h.vals i
    generalize st.look i = A at *
    cases A with
    | dead => trivial
    | und => exact hv
    | v t m y => obtain ⟨cs', e1, e2⟩ := hv; exact ⟨cs', e1, hOW e2⟩
    | tup t m y => obtain ⟨vs, e1, e2⟩ := hv; exact ⟨vs, e1, TupR_frame hZ hZw _ _ _ e2⟩
    | rp t y =>
      obtain ⟨b, off, cs', e1, e2, e3, e4⟩ := hv
      exact ⟨b, off, cs', e1, hZ b e2, by rw [cellsAt_same (hZw b e2)]; exact e3, e4.frame hZ hZw⟩
    | ref r p =>
      obtain ⟨l, cs', c', e1, e2⟩ := hv
      exact ⟨l, cs', c', hplace e1, e2⟩
    | addr r p =>
      obtain ⟨b, off, cs', c', e1, e2⟩ := hv
      exact ⟨b, off, cs', c', hplace e1, e2⟩
    | fn g' cs' =>
      obtain ⟨vs, f1, f2⟩ := hv
      refine ⟨vs, f1, f2.mono fun c hcm v hc => ?_⟩
      cases c with
      | d t' y =>
        obtain ⟨b, off, cs', e1, e2, e3, e4⟩ := hc
        exact ⟨b, off, cs', e1, hZ b e2, by rw [cellsAt_same (hZw b e2)]; exact e3, e4.frame hZ hZw⟩
      | m k =>
        obtain ⟨b, off, cs', c', e1, e2⟩ := hc
        exact ⟨b, off, cs', c', hplace e1, e2⟩
  · obtain ⟨b, e', cells, g1, g2, g3, g4⟩ := h.mems k c' hk
    exact ⟨b, e', cells, o_some b _ _ g1, by rw [hbel.block b (hlt b (by rw [g1]; simp))]; exact g2, hOW g3, fun b' hb' => g4 b' (o_mem' k b' hb')⟩
theorem flat_piece : ∀ (css : List (List Value)) (n i : Nat) (cs : List Value), (∀ c ∈ css, c.length = n) → css[i]? = some cs → (css.flatten.drop (i * n)).take n = cs := by
  intro css
  induction css with
  | nil => intro n i cs _ h; simp at h
  | cons c css ih =>
    intro n i cs hl h
    have hc : c.length = n := hl c (by simp)
    cases i with
    | zero =>
      simp at h
      subst h
      simp [← hc]
    | succ i =>
      rw [List.flatten_cons, Nat.succ_mul, List.drop_append, List.drop_eq_nil_of_le (by omega), List.nil_append, show i * n + n - c.length = i * n by omega]
      exact ih n i cs (fun c hc => hl c (by simp [hc])) (by simpa using h)
theorem flat_len : ∀ (css : List (List Value)) (n : Nat), (∀ c ∈ css, c.length = n) → css.flatten.length = css.length * n := by
  intro css
  induction css with
  | nil => intro n _; simp
  | cons c css ih =>
    intro n h
    rw [List.flatten_cons, List.length_append, ih n (fun c hc => h c (by simp [hc])), h c (by simp), List.length_cons, Nat.succ_mul]; omega
theorem elemOne_ok (ok : S.Ok) (E : Env S) (h : Rel g own st a w) {em : Mode} {x : Operand} {ty : Nat} {c : MV S.toNm} {st' : ST S} (hc : elemOne E em st x ty = some (c, st')) (p0 : Path) :
    ∃ own' cs, Rel g own' st' a w ∧ VS c.t (a.eval x) cs ∧ S.OW w own' (g.Z own' w) .lim c.t em p0 cs c.x ∧ Lasts own own' ∧ em.live = true := by
  have tk : em ≠ .ro → (match st.take E x ty with
    | some (c, st') => match decEq c.m em with
      | isTrue _ => some (c, st')
      | isFalse _ => none
    | none => none) = some (c, st') → ∃ own' cs, Rel g own' st' a w ∧ VS c.t (a.eval x) cs ∧ S.OW w own' (g.Z own' w) .lim c.t em p0 cs c.x ∧ Lasts own own' ∧ em.live = true := fun _ hc => by
    split at hc
    · rename_i c1 st1 e
      split at hc
      · rename_i hm _
        cases hc
        obtain ⟨own', cs, h1, hVS, hO, hL, hl⟩ := take_ok ok E h e p0
        subst hm
        exact ⟨own', cs, h1, hVS, hO, hL, hl⟩
      · cases hc
    · cases hc
  cases em with
  | ro =>
    obtain ⟨own', cs, h1, hVS, _, hR, hL⟩ := frz_ok ok E h hc
    exact ⟨own', cs, h1, hVS, OW_ro.2 hR, hL, rfl⟩
  | own m => exact tk (by simp) hc
  | pr m n => exact tk (by simp) hc
  | dd => exact tk (by simp) hc
theorem OW_rl (ok : S.Ok) {Z : Nat → Prop} {r : Root} {t : Ty} {em : Mode} {p : Path} {cs : List Value} {x : S.den (S.un t)} (hem : t.isNamed = true → em = .ro) (h : S.OW w own Z r (S.un t) em p cs x) : S.OW w own Z r t em p cs (S.rl t x) := by
  cases t with
  | named n =>
    have hem := hem rfl
    subst hem
    exact OW_ro.2 (Cx.R_rl ok (OW_ro.1 h))
  | _ => exact h
theorem elems_ok (ok : S.Ok) {E : Env S} {t : Ty} {em : Mode} {ee : Nat} (hem : t.isNamed = true → em = .ro) : ∀ (ps : List (Nat × Operand)) (j : Nat) (own : Nat → Option Own) (st st' : ST S) (l : List (S.den t)), Rel g own st a w →
    elemsGo E t em ee j ps st = some (l, st') →
    ∃ (own' : Nat → Option Own) (css : List (List Value)), Rel g own' st' a w ∧ Lasts own own' ∧ css.length = ps.length ∧ l.length = ps.length ∧ (∀ c ∈ css, c.length = S.size t) ∧
      (∀ i u, nth l i = some u → ∃ cs, css[i]? = some cs ∧ S.OW w own' (g.Z own' w) .lim t em [.idx (j + i)] cs u) ∧
      ∀ old : List Value, old.length = (j + ps.length) * S.size t →
        Instr.fill (fun i => some (i * S.size t, S.size t)) old.toArray (ps.map fun p => (p.1, a.eval p.2)) = some (old.take (j * S.size t) ++ css.flatten).toArray := by
  intro ps
  induction ps with
  | nil =>
    intro j own st st' l h he
    cases he
    refine ⟨own, [], h, .refl, rfl, rfl, by simp, fun i u hu => by simp [nth] at hu, fun old ho => ?_⟩
    simp only [List.length_nil, Nat.add_zero] at ho
    simp [Instr.fill, ← ho]
  | cons p ps ih =>
    intro j own st st' l h he
    obtain ⟨i, o⟩ := p
    simp only [elemsGo] at he
    split at he
    · cases he
    · rename_i hij
      have hij : i = j := by simpa using hij
      subst hij
      split at he
      · cases he
      · rename_i c st1 hc
        split at he
        · cases he
        · rename_i y hy
          split at he
          · rename_i l' st2 hl'
            cases he
            obtain ⟨own1, cs, h1, hVS, hR, hL1, hlv⟩ := elemOne_ok ok E h hc [.idx i]
            obtain ⟨ht, rfl⟩ := cast_some hy
            obtain ⟨ct, cm, cx⟩ := c
            simp only at ht hVS hR
            subst ht
            have hR := OW_rl ok hem hR
            obtain ⟨own', css, k1, k2, k3, k4, k5, k6, k7⟩ := ih (i + 1) own1 st1 st' l' h1 hl'
            have hlen : cs.length = S.size t := OW_len ok _ _ _ _ _ hR
            refine ⟨own', cs :: css, k1, hL1.trans k2, by simp [k3], by simp [k4], ?_, ?_, ?_⟩
            · intro c hc
              rcases List.mem_cons.1 hc with rfl | hc
              · exact hlen
              · exact k5 c hc
            · intro k u hu
              cases k with
              | zero =>
                simp [nth] at hu
                subst hu
                exact ⟨cs, rfl, OW_frame (fun b hb => k2.Z hb) (fun _ _ => rfl) _ _ _ _ _ _ (fun b q hb => ⟨k2.lim b _ hb, rfl⟩) hR⟩
              | succ k =>
                obtain ⟨cs', e1, e2⟩ := k6 k u (by simpa [nth] using hu)
                exact ⟨cs', by simpa using e1, by rw [show i + (k + 1) = i + 1 + k by omega]; exact e2⟩
            · intro old ho
              have hol : old.length = i * S.size t + S.size t + ps.length * S.size t := by
                rw [ho, List.length_cons, show i + (ps.length + 1) = i + 1 + ps.length by omega, Nat.add_mul, Nat.succ_mul]
              rw [List.map_cons, fill_step (off := i * S.size t) (size := S.size t) rfl (VS_list hVS (OW_one hR hlv)) hlen (by omega)]
              rw [k7 _ (by rw [spl_len (by omega), hol, Nat.add_mul, Nat.succ_mul])]
              congr 2
              rw [List.flatten_cons, Nat.succ_mul]
              simp only [spl]
              rw [List.take_append_of_le_length (by simp; omega), List.take_of_length_le (by simp; omega), List.append_assoc]
          · cases he
theorem do_buildSlice {o : Oper} {e n : Nat} {ps : Array (Nat × Operand)} {hn : Hint} {κ π : ST S → Option α} {r : α} (ok : S.Ok) (T : TysOk g.P g.E) (h : Rel g own st a w) (hd : ∀ d, o.dst = some d → d < a.tmps.size)
    (ho : o.op = .buildSlice e n ps) (hκ : opK π g.E hn o st κ = some r) : Do g true o a w κ r := by
  simp only [opK, ho] at hκ
  split at hκ
  · rename_i ee t e1
    split at hκ
    · rename_i hsz
      simp only [Bool.and_eq_true, beq_iff_eq, decide_eq_true_eq] at hsz
      obtain ⟨⟨hn', hbig⟩, hnmd⟩ := hsz
      have hem : t.isNamed = true → elemMode hn o.dst = .ro := fun e => by
        rw [e] at hnmd
        simp only [Bool.not_true, Bool.false_or] at hnmd
        generalize elemMode hn o.dst = m at *
        cases m <;> first | rfl | cases hnmd
      split at hκ
      · rename_i l st' e2
        obtain ⟨own1, css, h1, hL, k3, k4, k5, k6, k7⟩ := elems_ok ok hem ps.toList 0 own st st' l h e2
        have tf := T _ _ e1
        obtain ⟨hu, he, hpos⟩ := tf.und
        have tfe := T _ _ he
        obtain ⟨ie, ze, hie, hie2, hze, hVz, _⟩ := tfe.info
        rw [Cx.size_un ok] at hie2
        have hpl : ps.toList.length = n := by rw [Array.length_toList]; exact hn'
        obtain ⟨own2, hlab, hrel, hZ2, hsome⟩ := h1.newRow (.cells css.flatten.toArray ee) (some [])
        have hfl := flat_len css (S.size t) k5
        have hll : (l : List (S.den t)).length = n := by rw [k4, hpl]
        have hbel : Below w.heap.size w (w.alloc (.cells css.flatten.toArray ee)) := (Below.refl _ w).alloc (Nat.le_refl _) _
        have hnn : n ≤ 16777216 := Nat.le_trans (Nat.le_mul_of_pos_right n hpos) hbig
        have hO : S.OW (w.alloc (.cells css.flatten.toArray ee)) own2 (g.Z own2 (w.alloc (.cells css.flatten.toArray ee))) .lim (.slice ee t) (.own (elemMode hn o.dst)) [] [.slice (some ⟨w.heap.size, 0, none⟩) n n] l := by
          refine .inr ⟨w.heap.size, n, css.flatten.toArray, ?_, hlab, alloc_at, ?_, ?_, ?_, fun i u hu => ?_⟩
          · show [Value.slice _ n n] = [Value.slice _ (List.length (l : List (S.den t))) n]
            rw [hll]
          · exact Nat.le_of_eq hll
          · exact Nat.le_trans hnn (by decide)
          · rw [List.size_toArray, hfl, k3, hpl]
          · obtain ⟨cs, c1, c2⟩ := k6 i u hu
            simp only
            rw [flat_piece css (S.size t) i cs k5 c1]
            rw [Nat.zero_add] at c2
            exact OW_frame hZ2 (fun b hb => hbel.block b hb.2.1) _ _ _ _ _ _ (fun b q hb => ⟨hsome b _ _ hb, hbel.block b (h1.fresh b (by rw [hb]; simp)).2⟩) c2
        have hrun : (execOp a.eval o).run g.P w = .ok (.value (.slice (some ⟨w.heap.size, 0, none⟩) n n)) (w.alloc (.cells css.flatten.toArray ee)) := by
          simp only [execOp, ho]
          refine do_alloc.run_v' ?_
          have hfill : ∀ arr : Array Value, arr.size = n * S.size t → Instr.fill (fun i => some (i * S.size t, S.size t)) arr (ps.toList.map fun p => (p.1, a.eval p.2)) = some css.flatten.toArray := fun arr ha => by
            have := k7 arr.toList (by rw [Array.length_toList, ha, Nat.zero_add, hpl])
            simpa using this
          have hbig' : ¬ n * S.size t > 2 ^ 24 := by omega
          have hmap : (ps.map fun (x : Nat × Operand) => (x.1, a.eval x.2)).toList = ps.toList.map fun p => (p.1, a.eval p.2) := by simp
          simp only [Instr.buildSlice, Sem.run_bind, run_underlying hu, Result.andThen_ok, tfe.size w, Cx.size_un ok, hbig', if_false, pure_bind]
          by_cases h0 : n * S.size t = 0
          · rw [if_pos h0]
            rw [hmap, hfill _ (by simp)]
            simp only [newRow, Sem.run_bind, run_newObj_alloc, Result.andThen_ok]
            rfl
          · rw [if_neg h0]
            have hzv : (zeroValue ee).run g.P w = .ok ze w := by simp [zeroValue, typeInfo, hie, hze]
            simp only [Sem.run_bind, hzv, Result.andThen_ok]
            rw [hmap, hfill _ (by simp)]
            simp only [newRow, Sem.run_bind, run_newObj_alloc, Result.andThen_ok]
            rfl
        cases hdst : o.dst with
        | none =>
          rw [hdst] at hκ
          exact do_run hrun (by rw [hdst]; exact hrel) hκ (fun _ => hbel)
        | some d =>
          rw [hdst] at hκ hO
          obtain ⟨own3, hrel3⟩ := put_lim hrel hn (hd d hdst) (c := ⟨.slice ee t, .own (elemMode hn (some d)), l⟩) (v := .slice (some ⟨w.heap.size, 0, none⟩) n n) rfl hO
          exact do_run hrun (by rw [hdst]; exact hrel3) hκ (fun _ => hbel)
      · cases hκ
    · cases hκ
  · cases hκ
end
end Go.Proofs.Ytdnkjfmneppkoaa.Vm
