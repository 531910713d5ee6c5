/- A reader of the model s code over plain data, and that it is right of the machine (2). -/
import Derived.Test.YtdnkjfmneppkoaaVm1
import Derived.Laws.Tables
import Derived.MapKept
import Derived.WideKeyRuns
namespace Go.Proofs.Ytdnkjfmneppkoaa.Vm
open Go Go.RowKit
set_option linter.unusedVariables false
section
variable {S : Cx} {α : Type} {g : Gl S} {own : Nat → Option Own} {st : ST S} {a : Act} {w : World}
theorem overlay (off : Nat) : ∀ (l : List Value) (k : Nat) (cells : Array Value), off + k + l.length ≤ cells.size →
    ((l.zipIdx k).foldl (fun cs (c, j) => cs.setIfInBounds (off + j) c) cells).toList = spl cells.toList (off + k) l := by
  intro l
  induction l with
  | nil => intro k cells h; simp [spl]
  | cons v l ih =>
    intro k cells h
    rw [List.zipIdx_cons, List.foldl_cons]
    have hs : (cells.setIfInBounds (off + k) v).size = cells.size := by simp
    have hlen : (v :: l).length = l.length + 1 := rfl
    rw [ih (k + 1) _ (by rw [hs]; omega)]
    apply List.ext_getElem?
    intro i
    simp only [spl, Array.toList_setIfInBounds, List.getElem?_append, List.length_take, List.length_set, Array.length_toList, List.getElem?_take, List.getElem?_set, List.getElem?_drop, List.length_append, List.length_cons]
    rw [show min (off + (k + 1)) cells.size = off + k + 1 by omega, show min (off + k) cells.size = off + k by omega]
    by_cases h1 : i < off + k
    · simp [h1, show i < off + k + 1 + l.length by omega, show i < off + k + 1 by omega, show i < off + k + (l.length + 1) by omega, show i < off + (k + 1) by omega, show ¬ off + k = i by omega]
    · by_cases h2 : i = off + k
      · subst h2
        simp [show off + k < off + k + 1 + l.length by omega, show off + k < off + (k + 1) by omega, show off + k < cells.size by omega]
      · by_cases h3 : i < off + k + 1 + l.length
        · simp [h1, h3, show ¬ i < off + k + 1 by omega, show i < off + k + (l.length + 1) by omega]
          rw [show i - (off + k) = (i - (off + k + 1)) + 1 by omega, List.getElem?_cons_succ]
        · simp only [h3, if_false, show ¬ i < off + k + (l.length + 1) by omega]
          simp [show ¬ off + k = off + (k + 1) + l.length + (i - (off + k + 1 + l.length)) by omega]
          congr 1; omega
theorem fill_step {place : Nat → Option (Nat × Nat)} {cs : List Value} {i : Nat} {v : Value} {ps : List (Nat × Value)} {off size : Nat} {new : List Value}
    (h1 : place i = some (off, size)) (h2 : v.cells = new.toArray) (h3 : new.length = size) (h4 : off + size ≤ cs.length) :
    Instr.fill place cs.toArray ((i, v) :: ps) = Instr.fill place (spl cs off new).toArray ps := by
  simp only [Instr.fill, h1, h2]
  have e1 : new.toArray.size = size := by rw [List.size_toArray, h3]
  have e2 : cs.toArray.size = cs.length := List.size_toArray
  rw [if_neg (by rw [Bool.or_eq_true, decide_eq_true_eq, decide_eq_true_eq]; omega)]
  congr 1
  apply Array.ext'
  have := overlay off new 0 cs.toArray (by rw [List.size_toArray]; omega)
  simpa using this
theorem OW_fill (ok : S.Ok) {own' : Nat → Option Own} {Z Z' : Nat → Prop} {r : Root} {t' : Ty} {m' : Mode} {y : S.den t'} {new : List Value} (hZ : ∀ b, Z b → Z' b) :
    ∀ (t : Ty) (m : Mode) (q p : Path) (o0 o : Nat) (cs : List Value) (x : S.den t) (n : Mode) (z : S.den t) (cs0 : List Value), q.plain = true →
    S.OW w own Z r t m p cs x → S.setP t' m' y t m q x = some (n, z) → S.nav w t (some (0, o0)) cs q = some (some (0, o), cs0) → new.length = cs0.length →
    (∀ b' q', own b' = some (r, some (p ++ q')) → (¬ ∃ s, q' = q ++ s) → own' b' = some (r, some (p ++ q'))) →
    S.OW w own' Z' r t' m' (p ++ q) new y → S.OW w own' Z' r t n p (spl cs (o - o0) new) z ∧ o0 ≤ o ∧ o - o0 + new.length ≤ cs.length := by
  intro t
  induction t with
  | slice e t ih =>
    intro m q p o0 o cs x n z cs0 hp h hs hn hlen hkeep hnew
    cases q with
    | nil =>
      cases hn
      simp only [Cx.setP] at hs
      split at hs
      · rename_i z' hz
        cases hs
        obtain ⟨e', rfl⟩ := cast_some hz
        subst e'
        rw [Nat.sub_self, spl_all (by omega)]
        exact ⟨by simpa using hnew, Nat.le_refl _, by omega⟩
      · cases hs
    | cons s q => cases s with
      | idx i => simp [plain_cons, Step.isIdx] at hp
      | _ => cases hn
  | pair a b2 iha ihb =>
    intro m q p o0 o cs x n z cs0 hp h hs hn hlen hkeep hnew
    cases q with
    | nil =>
      cases hn
      simp only [Cx.setP] at hs
      split at hs
      · rename_i z' hz
        cases hs
        obtain ⟨e', rfl⟩ := cast_some hz
        subst e'
        rw [Nat.sub_self, spl_all (by omega)]
        exact ⟨by simpa using hnew, Nat.le_refl _, by omega⟩
      · cases hs
    | cons s q =>
      obtain ⟨c1, c2, rfl, h2, h3, h4⟩ := OW_pair h
      cases s with
      | fst =>
        simp only [Cx.setP] at hs
        split at hs
        · rename_i n' z' hs'
          cases hs
          have hn' : S.nav w a (some (0, o0)) c1 q = some (some (0, o), cs0) := by
            simp only [Cx.nav, ← h2, List.take_left'] at hn
            simpa using hn
          obtain ⟨i1, i2, i3⟩ := iha m.fst q (p ++ [Step.fst]) o0 o c1 x.1 n' z' cs0 (by simpa [plain_cons, Step.isIdx] using hp) h3 hs' hn' hlen (fun b' q' hb' hno => by
            have := hkeep b' (Step.fst :: q') (by simpa using hb') (by rintro ⟨s, hs⟩; exact hno ⟨s, by simpa using hs⟩)
            simpa using this) (by simpa using hnew)
          have h4' : S.OW w own' Z' r b2 m.snd (p ++ [Step.snd]) c2 x.2 := by
            refine OW_frame hZ (fun _ _ => rfl) b2 m.snd (p ++ [Step.snd]) (p ++ [Step.snd]) _ _ (fun b' q' hb' => ⟨?_, rfl⟩) h4
            have := hkeep b' (Step.snd :: q') (by simpa using hb') (by rintro ⟨s, hs⟩; simp at hs)
            simpa using this
          refine ⟨?_, i2, by rw [List.length_append]; omega⟩
          rw [spl_left i3]
          exact OW_pair_mk (OW_len ok _ _ _ _ _ i1) i1 h4'
        · cases hs
      | snd =>
        simp only [Cx.setP] at hs
        split at hs
        · rename_i n' z' hs'
          cases hs
          have hn' : S.nav w b2 (some (0, o0 + S.size a)) c2 q = some (some (0, o), cs0) := by
            simp only [Cx.nav] at hn
            simpa [← h2] using hn
          obtain ⟨i1, i2, i3⟩ := ihb m.snd q (p ++ [Step.snd]) (o0 + S.size a) o c2 x.2 n' z' cs0 (by simpa [plain_cons, Step.isIdx] using hp) h4 hs' hn' hlen (fun b' q' hb' hno => by
            have := hkeep b' (Step.snd :: q') (by simpa using hb') (by rintro ⟨s, hs⟩; exact hno ⟨s, by simpa using hs⟩)
            simpa using this) (by simpa using hnew)
          have h3' : S.OW w own' Z' r a m.fst (p ++ [Step.fst]) c1 x.1 := by
            refine OW_frame hZ (fun _ _ => rfl) a m.fst (p ++ [Step.fst]) (p ++ [Step.fst]) _ _ (fun b' q' hb' => ⟨?_, rfl⟩) h3
            have := hkeep b' (Step.fst :: q') (by simpa using hb') (by rintro ⟨s, hs⟩; simp at hs)
            simpa using this
          refine ⟨?_, by omega, by rw [List.length_append]; omega⟩
          rw [show o - o0 = c1.length + (o - (o0 + S.size a)) by omega, spl_right]
          exact OW_pair_mk h2 h3' i1
        · cases hs
      | _ => cases hn
  | agg t ih =>
    intro m q p o0 o cs x n z cs0 hp h hs hn hlen hkeep hnew
    cases q with
    | nil =>
      cases hn
      simp only [Cx.setP] at hs
      split at hs
      · rename_i z' hz
        cases hs
        obtain ⟨e', rfl⟩ := cast_some hz
        subst e'
        rw [Nat.sub_self, spl_all (by omega)]
        exact ⟨by simpa using hnew, Nat.le_refl _, by omega⟩
      · cases hs
    | cons s q =>
      cases s with
      | inn =>
        simp only [Cx.setP] at hs
        split at hs
        · rename_i n' z' hs'
          cases hs
          obtain ⟨i1, i2, i3⟩ := ih m q (p ++ [Step.inn]) o0 o cs x n z cs0 (by simpa [plain_cons, Step.isIdx] using hp) (OW_agg.1 h) hs' hn hlen (fun b' q' hb' hno => by
            have := hkeep b' (Step.inn :: q') (by simpa using hb') (by rintro ⟨s, hs⟩; exact hno ⟨s, by simpa using hs⟩)
            simpa using this) (by simpa using hnew)
          exact ⟨OW_agg.2 i1, i2, i3⟩
        · cases hs
      | _ => cases hn
  | arr k t ih =>
    intro m q p o0 o cs x n z cs0 hp h hs hn hlen hkeep hnew
    cases q with
    | nil =>
      cases hn
      simp only [Cx.setP] at hs
      split at hs
      · rename_i z' hz
        cases hs
        obtain ⟨e', rfl⟩ := cast_some hz
        subst e'
        rw [Nat.sub_self, spl_all (by omega)]
        exact ⟨by simpa using hnew, Nat.le_refl _, by omega⟩
      · cases hs
    | cons s q =>
      cases s with
      | el i =>
        obtain ⟨rfl, rfl, z', hs', rfl⟩ := setP_el hs
        obtain ⟨hi, hn⟩ := nav_el hn
        obtain ⟨h1, h2, h3⟩ := Cx.R_arr.1 (OW_ro.1 h)
        have hix : i < x.length := h1.symm ▸ hi
        have hfit : i * S.size t + S.size t ≤ cs.length := by
          rw [h2]; exact row_fits hi (Nat.le_refl _) rfl
        have hpl := el_len h2 hi
        obtain ⟨i1, i2, i3⟩ := ih .ro q (p ++ [Step.el i]) (o0 + i * S.size t) o _ _ .ro z' cs0 (by simpa [plain_cons, Step.isIdx] using hp) (OW_ro.2 (h3 i _ (getD_nth (l := x) (S.zero t) hix))) hs' hn hlen (fun b' q' hb' hno => by
          have := hkeep b' (Step.el i :: q') (by simpa using hb') (by rintro ⟨s, hs⟩; exact hno ⟨s, by simpa using hs⟩)
          simpa using this) (by simpa using hnew)
        rw [hpl] at i3
        have hlen' : List.length (List.set x i z') = k := (List.length_set : List.length (List.set x i z') = List.length x).trans h1
        refine ⟨OW_ro.2 (Cx.R_arr.2 ⟨hlen', by rw [spl_len (by omega)]; exact h2, fun j u hu => ?_⟩), by omega, by omega⟩
        by_cases hji : j = i
        · subst hji
          have hu' : u = z' := by
            have hat : nth (List.set x j z') j = some z' := nth_set_self hix
            rw [hat] at hu; exact (Option.some.inj hu).symm
          subst hu'
          have := spl_piece (cs := cs) (new := new) (at_ := j * S.size t) (n := S.size t) (off := o - o0 - j * S.size t) (by omega) hfit
          rw [show j * S.size t + (o - o0 - j * S.size t) = o - o0 by omega, show o - o0 - j * S.size t = o - (o0 + j * S.size t) by omega] at this
          rw [this]; exact OW_ro.1 i1
        · have hu' : nth x j = some u := by
            have : nth (List.set x i z') j = nth x j := nth_set_ne hji
            rw [← this]; exact hu
          have := spl_apart (cs := cs) (new := new) (at_ := j * S.size t) (n := S.size t) (off := o - o0) (by
            rcases Nat.lt_or_gt_of_ne hji with hlt | hgt
            · left
              have : (j + 1) * S.size t ≤ i * S.size t := Nat.mul_le_mul_right _ hlt
              rw [Nat.succ_mul] at this; omega
            · right
              have : (i + 1) * S.size t ≤ j * S.size t := Nat.mul_le_mul_right _ hgt
              rw [Nat.succ_mul] at this; omega) (by omega)
          rw [this]; exact (h3 j u hu').frame hZ (fun _ _ => rfl)
      | _ => cases hn
  | _ =>
    intro m q p o0 o cs x n z cs0 hp h hs hn hlen hkeep hnew
    cases q with
    | nil =>
      cases hn
      simp only [Cx.setP] at hs
      split at hs
      · rename_i z' hz
        cases hs
        obtain ⟨e', rfl⟩ := cast_some hz
        subst e'
        rw [Nat.sub_self, spl_all (by omega)]
        exact ⟨by simpa using hnew, Nat.le_refl _, by omega⟩
      · cases hs
    | cons s q => cases s <;> cases hn
theorem fields_places {P : Program} {E : Env S} (T : TysOk P E) : ∀ (fs : List Field) (u : Ty) (o : Nat), FieldsOk S E fs u o →
    ∃ places : List (Nat × Nat), fs.mapM (fun f => (P.info? f.type).map fun i => (f.offset, i.size)) = some places ∧
      ∀ (i : Nat) (f : Field) (tf : Ty), fs[i]? = some f → E.tys.lookup f.type = some tf → places[i]? = some (f.offset, S.size tf) := by
  have key : ∀ fs : List Field, (∀ f ∈ fs, ∃ tf, E.tys.lookup f.type = some tf) → ∃ places : List (Nat × Nat), fs.mapM (fun f => (P.info? f.type).map fun i => (f.offset, i.size)) = some places ∧
      ∀ (i : Nat) (f : Field) (tf : Ty), fs[i]? = some f → E.tys.lookup f.type = some tf → places[i]? = some (f.offset, S.size tf) := by
    intro fs
    induction fs with
    | nil => intro _; exact ⟨[], rfl, fun i f tf h => by simp at h⟩
    | cons f fs ih =>
      intro h
      obtain ⟨tf, hf⟩ := h f (by simp)
      obtain ⟨places, h1, h2⟩ := ih fun f hf => h f (by simp [hf])
      obtain ⟨i, z, e1, e2, _⟩ := (T _ _ hf).info
      refine ⟨(f.offset, i.size) :: places, ?_, ?_⟩
      · simp [List.mapM_cons, e1, h1]
      · intro j f' tf' hj hl
        cases j with
        | zero =>
          simp at hj
          subst hj
          rw [hf] at hl; cases hl
          simp [e2]
        | succ j => simpa using h2 j f' tf' (by simpa using hj) hl
  intro fs u o h
  refine key fs ?_
  have : ∀ (fs : List Field) (u : Ty) (o : Nat), FieldsOk S E fs u o → ∀ f ∈ fs, ∃ tf, E.tys.lookup f.type = some tf := by
    intro fs
    induction fs with
    | nil => intro u o h f hf; cases hf
    | cons f0 fs ih =>
      intro u o h f hf
      cases fs with
      | nil =>
        cases u with
        | pair a b => exact (h : False).elim
        | _ =>
          obtain ⟨h1, h2, h3⟩ := h
          simp at hf
          subst hf
          exact ⟨_, h2⟩
      | cons f1 fs =>
        cases u with
        | pair a b =>
          obtain ⟨h1, h2, h3, h4⟩ := h
          rcases List.mem_cons.1 hf with rfl | hf
          · exact ⟨_, h2⟩
          · exact ih _ _ h4 f hf
        | _ => exact (h : False).elim
  exact this fs u o h
theorem partPath_some {t : Ty} {f : Nat} {p : Path} (h : partPath t f = some p) : ∃ u q, t = .agg u ∧ p = Step.inn :: q ∧ partGo u f = some q := by
  cases t with
  | agg u =>
    simp only [partPath] at h
    split at h
    · rename_i q hq; cases h; exact ⟨u, q, rfl, rfl, hq⟩
    · cases h
  | _ => cases h
def PartsAt (S : Cx) (u : Ty) (place : Nat → Option (Nat × Nat)) : Prop := ∀ (i : Nat) (q : Path), partGo u i = some q →
  ∃ off tf, place i = some (off, S.size tf) ∧ q.plain = true ∧
    (∀ w l cs, ∃ cs', S.nav w u l cs q = some (l.map (fun x => (x.1, x.2 + off)), cs') ∧ (cs.length = S.size u → cs' = (cs.drop off).take (S.size tf))) ∧
    (∀ m x, ∃ m' x', S.getP u m q x = some ⟨tf, m', x'⟩)
theorem parts_struct {E : Env S} {u : Ty} {fs : List Field} {place : Nat → Option (Nat × Nat)} (hf : FieldsOk S E fs u 0)
    (hpl : ∀ (i : Nat) (f : Field) (tf : Ty), fs[i]? = some f → E.tys.lookup f.type = some tf → place i = some (f.offset, S.size tf)) (hu : ∀ n v, u ≠ .arr n v) : PartsAt S u place := by
  intro i q hq
  have hq' : fieldGo u i = some q := by
    cases u with
    | arr n v => exact absurd rfl (hu n v)
    | _ => exact hq
  obtain ⟨fd, tf, f1, f2, f3, f4, f5, f6, f7⟩ := field_nav fs u 0 i q hf hq'
  exact ⟨fd.offset, tf, hpl i fd tf f1 f3, f5, fun w l cs => by
    obtain ⟨cs', n1, n2⟩ := f6 w l cs
    exact ⟨cs', by simpa using n1, by simpa using n2⟩, f7⟩
theorem parts_array {n : Nat} {v : Ty} : PartsAt S (.arr n v) (fun i => some (i * S.size v, S.size v)) := by
  intro i q hq
  simp only [partGo] at hq
  split at hq
  · rename_i hi
    cases hq
    have hi := of_decide_eq_true hi
    refine ⟨i * S.size v, v, rfl, rfl, fun w l cs => ⟨(cs.drop (i * S.size v)).take (S.size v), ?_, fun _ => rfl⟩, fun m x => ⟨m.elem, List.getD x i (S.zero v), ?_⟩⟩
    · rw [nav_el_eq hi, nav_nil]
    · rw [getP_el_eq, getP_nil]
  · cases hq
theorem build_ok (ok : S.Ok) {E : Env S} {u : Ty} {place : Nat → Option (Nat × Nat)} (hpa : PartsAt S u place) :
    ∀ (ps : List (Nat × Operand)) (m : Mode) (x : S.den (.agg u)) (own : Nat → Option Own) (st st' : ST S) (cs : List Value) (c : MV S.toNm), Rel g own st a w →
    S.OW w own (g.Z own w) .lim (.agg u) m [] cs x → buildGo E ps (.agg u) m x st = some (c, st') →
    ∃ own' cs', Rel g own' st' a w ∧ c.t = .agg u ∧ S.OW w own' (g.Z own' w) .lim c.t c.m [] cs' c.x ∧
      Instr.fill place cs.toArray (ps.map fun p => (p.1, a.eval p.2)) = some cs'.toArray := by
  intro ps
  induction ps with
  | nil =>
    intro m x own st st' cs c h hO hb
    cases hb
    exact ⟨own, cs, h, rfl, hO, rfl⟩
  | cons p ps ih =>
    intro m x own st st' cs c h hO hb
    obtain ⟨i, o⟩ := p
    simp only [buildGo] at hb
    split at hb
    · cases hb
    · rename_i q hq
      obtain ⟨u', q', e1, rfl, hq'⟩ := partPath_some hq
      cases e1
      split at hb
      · cases hb
      · rename_i c0 hg
        obtain ⟨off, tf, hpi, f5, f6, f7⟩ := hpa i q' hq'
        have hl : cs.length = S.size u := OW_len ok _ _ _ _ _ (OW_agg.1 hO)
        obtain ⟨cs0, n1, n2⟩ := f6 w (some (0, 0)) cs
        have hg' : S.getP u m q' x = some c0 := hg
        obtain ⟨m2, x2, hg2⟩ := f7 m x
        rw [hg'] at hg2
        cases hg2
        obtain ⟨hcl, _⟩ := nav_cells u q' m x none cs none cs0 _ hl (fun b off he => by cases he) (by
          obtain ⟨cs0', n1', n2'⟩ := f6 w none cs
          rw [n2 hl, ← n2' hl]; exact n1') hg'
        have n1' : S.nav w (.agg u) (some (0, 0)) cs (Step.inn :: q') = some (some (0, off), cs0) := by
          simp only [Cx.nav]; rw [n1]; simp
        have step : ∀ (own1 : Nat → Option Own) (st1 : ST S) (cc : MV S.toNm) (new : List Value) (n : Mode) (z : S.den (.agg u)), Rel g own1 st1 a w → Lasts own own1 →
            S.OW w own1 (g.Z own1 w) .lim cc.t cc.m (Step.inn :: q') new cc.x → VS cc.t (a.eval o) new → cc.m.live = true → cc.t = tf →
            S.setP cc.t cc.m cc.x (.agg u) m (Step.inn :: q') x = some (n, z) → buildGo E ps (.agg u) n z st1 = some (c, st') →
            ∃ own' cs', Rel g own' st' a w ∧ c.t = .agg u ∧ S.OW w own' (g.Z own' w) .lim c.t c.m [] cs' c.x ∧
              Instr.fill place cs.toArray (((i, o) :: ps).map fun p => (p.1, a.eval p.2)) = some cs'.toArray := by
          intro own1 st1 cc new n z h1 hL hOn hVS hlive htf hs hb
          have hnl : new.length = S.size tf := by rw [OW_len ok _ _ _ _ _ hOn, htf]
          obtain ⟨i1, i2, i3⟩ := OW_fill (w := w) ok (own := own) (own' := own1) (Z := g.Z own w) (Z' := g.Z own1 w) (r := .lim) (y := cc.x) (new := new) (fun b hb => hL.Z hb) (.agg u) m (Step.inn :: q') [] 0 off cs x n z cs0
            (by simp [plain_cons, Step.isIdx, f5]) hO hs n1' (by rw [hnl, hcl]) (fun b' q'' hb' _ => hL.lim b' _ hb') (by simpa using hOn)
          obtain ⟨own', cs', j1, j2, j3, j4⟩ := ih n z own1 st1 st' _ c h1 i1 hb
          refine ⟨own', cs', j1, j2, j3, ?_⟩
          rw [List.map_cons]
          rw [Nat.sub_zero] at i3 j4
          rw [fill_step hpi (VS_list hVS (OW_one hOn hlive)) hnl (by rw [hnl] at i3; exact i3)]
          exact j4
        split at hb
        · rename_i v tc htc
          split at hb
          · cases hb
          · rename_i y hy
            split at hb
            · rename_i n z hs
              obtain ⟨new, k1, k2⟩ := lit_ok (g := g) (own := own) (w := w) hy
              exact step own st ⟨_, .ro, y⟩ new n z h .refl (OW_ro.2 k2) k1 rfl rfl hs hb
            · cases hb
        · split at hb
          · cases hb
          · rename_i cc st1 ht
            split at hb
            · rename_i n z hs
              obtain ⟨own1, new, k1, k2, k3, k4, k5⟩ := takeT_ok ok E h ht (Step.inn :: q')
              have htt := do_store.setP_type (S := S) _ _ _ _ _ _ () hs hg
              exact step own1 st1 cc new n z k1 k4 k3 k2 k5 htt.symm hs hb
            · cases hb
theorem rd_build {o : Oper} {e : TypeId} {ps : Array (Nat × Operand)} {hn : Hint} {κ : ST S → Option α} {r : α} (ok : S.Ok) (T : TysOk g.P g.E) (h : Rel g own st a w) (hd : ∀ d, o.dst = some d → d < a.tmps.size)
    (ho : o.op = .build e ps) (hκ : opK g.E hn o st κ = some r) : Rd g o a w κ r := by
  simp only [opK, ho] at hκ
  split at hκ
  · rename_i u e1
    split at hκ
    · rename_i c st' e2
      have tf := T _ _ e1
      obtain ⟨i, z, hi, hsz, hz, hVz, _⟩ := tf.info
      have hzc : z.cells = (zc (.agg u)).toArray := VS_list hVz (R_zc (S := S) (w := w) (Z := fun _ => True) _ (tf.named rfl)).one
      have hO0 : S.OW w own (g.Z own w) .lim (.agg u) (buildMode hn o.dst u) [] (zc (.agg u)) (S.zero (.agg u)) := by
        unfold buildMode; split; exact OW_zc ok (.agg u) _ [] (tf.named rfl); exact OW_ro.2 (R_zc _ (tf.named rfl))
      rcases tf.und with ⟨fs, hu, hf⟩ | ⟨n, v, ee, rfl, hu, hl, hpos⟩
      · obtain ⟨places, hm, hp⟩ := fields_places T fs.toList u 0 hf
        have hna : ∀ n v, u ≠ .arr n v := fun n v e => by
          subst e
          match hfs : fs.toList, hf with
          | [f], hf => exact (T _ _ hf.2.1).und
          | [], hf => exact hf
          | _ :: _ :: _, hf => exact hf
        obtain ⟨own', cs', h1, ht, hO, hfill⟩ := build_ok (place := (places.toArray[·]?)) ok (parts_struct hf (fun i f tf a b => by simpa using hp i f tf a b) hna) ps.toList _ _ own st st' (zc (.agg u)) c h hO0 e2
        have hVS : VS c.t (.agg cs'.toArray) cs' := by rw [ht]; rfl
        refine rd_lim hn (c := c) h1 hd (fun w' _ => ?_) hVS hO hκ
        simp only [execOp, ho]
        refine run_v (run_build w' e _ cs'.toArray ?_)
        simp only [Program.built, hi, hu, hz, hm, hzc]
        simpa using hfill
      · obtain ⟨ie, _, i1, i2, _⟩ := (T _ _ hl).info
        obtain ⟨own', cs', h1, ht, hO, hfill⟩ := build_ok (place := fun i => some (i * S.size v, S.size v)) ok parts_array ps.toList _ _ own st st' (zc (.agg (.arr n v))) c h hO0 e2
        have hVS : VS c.t (.agg cs'.toArray) cs' := by rw [ht]; rfl
        refine rd_lim hn (c := c) h1 hd (fun w' _ => ?_) hVS hO hκ
        simp only [execOp, ho]
        refine run_v (run_build w' e _ cs'.toArray ?_)
        simp only [Program.built, hi, hu, hz, i1, i2, hzc]
        simpa using hfill
    · cases hκ
  · cases hκ
theorem Rel.newRow (h : Rel g own st a w) (o : Obj) (q : Option Path) : ∃ own', own' w.heap.size = some (.lim, q) ∧ Rel g own' st a (w.alloc o) ∧
    (∀ b, g.Z own w b → g.Z own' (w.alloc o) b) ∧ (∀ b r q, own b = some (r, q) → own' b = some (r, q)) := by
  have hbel : Below w.heap.size w (w.alloc o) := (Below.refl _ w).alloc (Nat.le_refl _) _
  let own2 : Nat → Option Own := fun b => if b = w.heap.size then some (.lim, q) else own b
  have o_old : ∀ b, b < w.heap.size → own2 b = own b := fun b hb => by
    have : b ≠ w.heap.size := by omega
    simp [own2, this]
  have o_some : ∀ b r q, own b = some (r, q) → own2 b = some (r, q) := fun b r q hb => by
    rw [o_old b (h.fresh b (by rw [hb]; simp)).2, hb]
  have o_mem' : ∀ k b, own2 b = some (.mem k, none) → own b = some (.mem k, none) := fun k b hb => by
    simp only [own2] at hb
    split at hb
    · simp at hb
    · exact hb
  have hZ : ∀ b, g.Z own w b → g.Z own2 (w.alloc o) b := fun b hb => ⟨hb.1, by rw [alloc_size]; have := hb.2.1; omega, by rw [o_old b hb.2.1]; exact hb.2.2⟩
  have hZw : ∀ b, g.Z own w b → (w.alloc o).heap[b]? = w.heap[b]? := fun b hb => hbel.block b hb.2.1
  have hlt : ∀ b, own b ≠ none → b < w.heap.size := fun b hb => (h.fresh b hb).2
  have h2 := h.keep hbel
  have hplace : ∀ {r p l cs' c'}, Place st own a w r p l cs' c' → Place st own2 a (w.alloc o) r p l cs' c' := fun hp =>
    Place_own (Place_keep hbel.block hp) rfl (fun _ _ => rfl) (fun k b he hb => o_some b _ _ hb)
  have hOW : ∀ {r : Root} {t : Ty} {m : Mode} {p : Path} {cs' : List Value} {x : S.den t}, S.OW w own (g.Z own w) r t m p cs' x →
      S.OW (w.alloc o) own2 (g.Z own2 (w.alloc o)) r t m p cs' x := fun hO => OW_frame hZ hZw _ _ _ _ _ _ (fun b q hb => ⟨o_some b _ _ hb, hbel.block b (hlt b (by rw [hb]; simp))⟩) hO
  refine ⟨own2, by simp [own2], ?_, hZ, o_some⟩
  refine ⟨h2.os, h2.tape, h2.output, h2.size, h2.block, fun b hb => ?_, fun i => ?_, fun k c' hk => ?_, h2.defs, fun k b b' hp hb => h.pins k b b' hp (o_mem' k b' hb)⟩
  · by_cases hbn : b = w.heap.size
    · subst hbn
      exact ⟨.inl h.size, by rw [alloc_size]; omega⟩
    · have : own b ≠ none := fun e => hb (by simp [own2, hbn, e])
      exact ⟨(h.fresh b this).1, by rw [alloc_size]; have := (h.fresh b this).2; omega⟩
  · have hv := h.vals i
    generalize st.look i = A at *
    cases A with
    | dead => trivial
    | und => exact hv
    | v t m y => obtain ⟨cs', e1, e2⟩ := hv; exact ⟨cs', e1, hOW e2⟩
    | tup t m y => obtain ⟨vs, e1, e2⟩ := hv; exact ⟨vs, e1, TupR_frame hZ hZw _ _ _ e2⟩
    | rp t y =>
      obtain ⟨b, off, cs', e1, e2, e3, e4⟩ := hv
      exact ⟨b, off, cs', e1, hZ b e2, by rw [cellsAt_same (hZw b e2)]; exact e3, e4.frame hZ hZw⟩
    | ref r p =>
      obtain ⟨l, cs', c', e1, e2⟩ := hv
      exact ⟨l, cs', c', hplace e1, e2⟩
    | addr r p =>
      obtain ⟨b, off, cs', c', e1, e2⟩ := hv
      exact ⟨b, off, cs', c', hplace e1, e2⟩
    | fn g' cs' =>
      obtain ⟨vs, f1, f2⟩ := hv
      refine ⟨vs, f1, f2.mono fun c hcm v hc => ?_⟩
      cases c with
      | d t' y =>
        obtain ⟨b, off, cs', e1, e2, e3, e4⟩ := hc
        exact ⟨b, off, cs', e1, hZ b e2, by rw [cellsAt_same (hZw b e2)]; exact e3, e4.frame hZ hZw⟩
      | m k =>
        obtain ⟨b, off, cs', c', e1, e2⟩ := hc
        exact ⟨b, off, cs', c', hplace e1, e2⟩
  · obtain ⟨b, e', cells, g1, g2, g3, g4⟩ := h.mems k c' hk
    exact ⟨b, e', cells, o_some b _ _ g1, by rw [hbel.block b (hlt b (by rw [g1]; simp))]; exact g2, hOW g3, fun b' hb' => g4 b' (o_mem' k b' hb')⟩
theorem flat_piece : ∀ (css : List (List Value)) (n i : Nat) (cs : List Value), (∀ c ∈ css, c.length = n) → css[i]? = some cs → (css.flatten.drop (i * n)).take n = cs := by
  intro css
  induction css with
  | nil => intro n i cs _ h; simp at h
  | cons c css ih =>
    intro n i cs hl h
    have hc : c.length = n := hl c (by simp)
    cases i with
    | zero =>
      simp at h
      subst h
      simp [← hc]
    | succ i =>
      rw [List.flatten_cons, Nat.succ_mul, List.drop_append, List.drop_eq_nil_of_le (by omega), List.nil_append, show i * n + n - c.length = i * n by omega]
      exact ih n i cs (fun c hc => hl c (by simp [hc])) (by simpa using h)
theorem flat_len : ∀ (css : List (List Value)) (n : Nat), (∀ c ∈ css, c.length = n) → css.flatten.length = css.length * n := by
  intro css
  induction css with
  | nil => intro n _; simp
  | cons c css ih =>
    intro n h
    rw [List.flatten_cons, List.length_append, ih n (fun c hc => h c (by simp [hc])), h c (by simp), List.length_cons, Nat.succ_mul]; omega
theorem elemOne_ok (ok : S.Ok) (E : Env S) (h : Rel g own st a w) {em : Mode} {x : Operand} {ty : Nat} {c : MV S.toNm} {st' : ST S} (hc : elemOne E em st x ty = some (c, st')) (p0 : Path) :
    ∃ own' cs, Rel g own' st' a w ∧ VS c.t (a.eval x) cs ∧ S.OW w own' (g.Z own' w) .lim c.t em p0 cs c.x ∧ Lasts own own' ∧ em.live = true := by
  have tk : em ≠ .ro → (match st.take E x ty with
    | some (c, st') => match decEq c.m em with
      | isTrue _ => some (c, st')
      | isFalse _ => none
    | none => none) = some (c, st') → ∃ own' cs, Rel g own' st' a w ∧ VS c.t (a.eval x) cs ∧ S.OW w own' (g.Z own' w) .lim c.t em p0 cs c.x ∧ Lasts own own' ∧ em.live = true := fun _ hc => by
    split at hc
    · rename_i c1 st1 e
      split at hc
      · rename_i hm _
        cases hc
        obtain ⟨own', cs, h1, hVS, hO, hL, hl⟩ := take_ok ok E h e p0
        subst hm
        exact ⟨own', cs, h1, hVS, hO, hL, hl⟩
      · cases hc
    · cases hc
  cases em with
  | ro =>
    obtain ⟨own', cs, h1, hVS, _, hR, hL⟩ := frz_ok ok E h hc
    exact ⟨own', cs, h1, hVS, OW_ro.2 hR, hL, rfl⟩
  | own m => exact tk (by simp) hc
  | pr m n => exact tk (by simp) hc
  | dd => exact tk (by simp) hc
theorem OW_rl (ok : S.Ok) {Z : Nat → Prop} {r : Root} {t : Ty} {em : Mode} {p : Path} {cs : List Value} {x : S.den (S.un t)} (hem : t.isNamed = true → em = .ro) (h : S.OW w own Z r (S.un t) em p cs x) : S.OW w own Z r t em p cs (S.rl t x) := by
  cases t with
  | named n =>
    have hem := hem rfl
    subst hem
    exact OW_ro.2 (Cx.R_rl ok (OW_ro.1 h))
  | _ => exact h
theorem elems_ok (ok : S.Ok) {E : Env S} {t : Ty} {em : Mode} {ee : Nat} (hem : t.isNamed = true → em = .ro) : ∀ (ps : List (Nat × Operand)) (j : Nat) (own : Nat → Option Own) (st st' : ST S) (l : List (S.den t)), Rel g own st a w →
    elemsGo E t em ee j ps st = some (l, st') →
    ∃ (own' : Nat → Option Own) (css : List (List Value)), Rel g own' st' a w ∧ Lasts own own' ∧ css.length = ps.length ∧ l.length = ps.length ∧ (∀ c ∈ css, c.length = S.size t) ∧
      (∀ i u, nth l i = some u → ∃ cs, css[i]? = some cs ∧ S.OW w own' (g.Z own' w) .lim t em [.idx (j + i)] cs u) ∧
      ∀ old : List Value, old.length = (j + ps.length) * S.size t →
        Instr.fill (fun i => some (i * S.size t, S.size t)) old.toArray (ps.map fun p => (p.1, a.eval p.2)) = some (old.take (j * S.size t) ++ css.flatten).toArray := by
  intro ps
  induction ps with
  | nil =>
    intro j own st st' l h he
    cases he
    refine ⟨own, [], h, .refl, rfl, rfl, by simp, fun i u hu => by simp [nth] at hu, fun old ho => ?_⟩
    simp only [List.length_nil, Nat.add_zero] at ho
    simp [Instr.fill, ← ho]
  | cons p ps ih =>
    intro j own st st' l h he
    obtain ⟨i, o⟩ := p
    simp only [elemsGo] at he
    split at he
    · cases he
    · rename_i hij
      have hij : i = j := by simpa using hij
      subst hij
      split at he
      · cases he
      · rename_i c st1 hc
        split at he
        · cases he
        · rename_i y hy
          split at he
          · rename_i l' st2 hl'
            cases he
            obtain ⟨own1, cs, h1, hVS, hR, hL1, hlv⟩ := elemOne_ok ok E h hc [.idx i]
            obtain ⟨ht, rfl⟩ := cast_some hy
            obtain ⟨ct, cm, cx⟩ := c
            simp only at ht hVS hR
            subst ht
            have hR := OW_rl ok hem hR
            obtain ⟨own', css, k1, k2, k3, k4, k5, k6, k7⟩ := ih (i + 1) own1 st1 st' l' h1 hl'
            have hlen : cs.length = S.size t := OW_len ok _ _ _ _ _ hR
            refine ⟨own', cs :: css, k1, hL1.trans k2, by simp [k3], by simp [k4], ?_, ?_, ?_⟩
            · intro c hc
              rcases List.mem_cons.1 hc with rfl | hc
              · exact hlen
              · exact k5 c hc
            · intro k u hu
              cases k with
              | zero =>
                simp [nth] at hu
                subst hu
                exact ⟨cs, rfl, OW_frame (fun b hb => k2.Z hb) (fun _ _ => rfl) _ _ _ _ _ _ (fun b q hb => ⟨k2.lim b _ hb, rfl⟩) hR⟩
              | succ k =>
                obtain ⟨cs', e1, e2⟩ := k6 k u (by simpa [nth] using hu)
                exact ⟨cs', by simpa using e1, by rw [show i + (k + 1) = i + 1 + k by omega]; exact e2⟩
            · intro old ho
              have hol : old.length = i * S.size t + S.size t + ps.length * S.size t := by
                rw [ho, List.length_cons, show i + (ps.length + 1) = i + 1 + ps.length by omega, Nat.add_mul, Nat.succ_mul]
              rw [List.map_cons, fill_step (off := i * S.size t) (size := S.size t) rfl (VS_list hVS (OW_one hR hlv)) hlen (by omega)]
              rw [k7 _ (by rw [spl_len (by omega), hol, Nat.add_mul, Nat.succ_mul])]
              congr 2
              rw [List.flatten_cons, Nat.succ_mul]
              simp only [spl]
              rw [List.take_append_of_le_length (by simp; omega), List.take_of_length_le (by simp; omega), List.append_assoc]
          · cases he
theorem do_buildSlice {o : Oper} {e n : Nat} {ps : Array (Nat × Operand)} {hn : Hint} {κ : ST S → Option α} {r : α} (ok : S.Ok) (T : TysOk g.P g.E) (h : Rel g own st a w) (hd : ∀ d, o.dst = some d → d < a.tmps.size)
    (ho : o.op = .buildSlice e n ps) (hκ : opK g.E hn o st κ = some r) : Do g true o a w κ r := by
  simp only [opK, ho] at hκ
  split at hκ
  · rename_i ee t e1
    split at hκ
    · rename_i hsz
      simp only [Bool.and_eq_true, beq_iff_eq, decide_eq_true_eq] at hsz
      obtain ⟨⟨hn', hbig⟩, hnmd⟩ := hsz
      have hem : t.isNamed = true → elemMode hn o.dst = .ro := fun e => by
        rw [e] at hnmd
        simp only [Bool.not_true, Bool.false_or] at hnmd
        generalize elemMode hn o.dst = m at *
        cases m <;> first | rfl | cases hnmd
      split at hκ
      · rename_i l st' e2
        obtain ⟨own1, css, h1, hL, k3, k4, k5, k6, k7⟩ := elems_ok ok hem ps.toList 0 own st st' l h e2
        have tf := T _ _ e1
        obtain ⟨hu, he, hpos⟩ := tf.und
        have tfe := T _ _ he
        obtain ⟨ie, ze, hie, hie2, hze, hVz, _⟩ := tfe.info
        rw [Cx.size_un ok] at hie2
        have hpl : ps.toList.length = n := by rw [Array.length_toList]; exact hn'
        obtain ⟨own2, hlab, hrel, hZ2, hsome⟩ := h1.newRow (.cells css.flatten.toArray ee) (some [])
        have hfl := flat_len css (S.size t) k5
        have hll : (l : List (S.den t)).length = n := by rw [k4, hpl]
        have hbel : Below w.heap.size w (w.alloc (.cells css.flatten.toArray ee)) := (Below.refl _ w).alloc (Nat.le_refl _) _
        have hnn : n ≤ 16777216 := Nat.le_trans (Nat.le_mul_of_pos_right n hpos) hbig
        have hO : S.OW (w.alloc (.cells css.flatten.toArray ee)) own2 (g.Z own2 (w.alloc (.cells css.flatten.toArray ee))) .lim (.slice ee t) (.own (elemMode hn o.dst)) [] [.slice (some ⟨w.heap.size, 0, none⟩) n n] l := by
          refine .inr ⟨w.heap.size, n, css.flatten.toArray, ?_, hlab, alloc_at, ?_, ?_, ?_, fun i u hu => ?_⟩
          · show [Value.slice _ n n] = [Value.slice _ (List.length (l : List (S.den t))) n]
            rw [hll]
          · exact Nat.le_of_eq hll
          · exact Nat.le_trans hnn (by decide)
          · rw [List.size_toArray, hfl, k3, hpl]
          · obtain ⟨cs, c1, c2⟩ := k6 i u hu
            simp only
            rw [flat_piece css (S.size t) i cs k5 c1]
            rw [Nat.zero_add] at c2
            exact OW_frame hZ2 (fun b hb => hbel.block b hb.2.1) _ _ _ _ _ _ (fun b q hb => ⟨hsome b _ _ hb, hbel.block b (h1.fresh b (by rw [hb]; simp)).2⟩) c2
        have hrun : (execOp a.eval o).run g.P w = .ok (.value (.slice (some ⟨w.heap.size, 0, none⟩) n n)) (w.alloc (.cells css.flatten.toArray ee)) := by
          simp only [execOp, ho]
          refine do_alloc.run_v' ?_
          have hfill : ∀ arr : Array Value, arr.size = n * S.size t → Instr.fill (fun i => some (i * S.size t, S.size t)) arr (ps.toList.map fun p => (p.1, a.eval p.2)) = some css.flatten.toArray := fun arr ha => by
            have := k7 arr.toList (by rw [Array.length_toList, ha, Nat.zero_add, hpl])
            simpa using this
          have hbig' : ¬ n * S.size t > 2 ^ 24 := by omega
          have hmap : (ps.map fun (x : Nat × Operand) => (x.1, a.eval x.2)).toList = ps.toList.map fun p => (p.1, a.eval p.2) := by simp
          simp only [Instr.buildSlice, Sem.run_bind, run_underlying hu, Result.andThen_ok, tfe.size w, Cx.size_un ok, hbig', if_false, pure_bind]
          by_cases h0 : n * S.size t = 0
          · rw [if_pos h0]
            rw [hmap, hfill _ (by simp)]
            simp only [newRow, Sem.run_bind, run_newObj_alloc, Result.andThen_ok]
            rfl
          · rw [if_neg h0]
            have hzv : (zeroValue ee).run g.P w = .ok ze w := by simp [zeroValue, typeInfo, hie, hze]
            simp only [Sem.run_bind, hzv, Result.andThen_ok]
            rw [hmap, hfill _ (by simp)]
            simp only [newRow, Sem.run_bind, run_newObj_alloc, Result.andThen_ok]
            rfl
        cases hdst : o.dst with
        | none =>
          rw [hdst] at hκ
          exact do_run hrun (by rw [hdst]; exact hrel) hκ (fun _ => hbel)
        | some d =>
          rw [hdst] at hκ hO
          obtain ⟨own3, hrel3⟩ := put_lim hrel hn (hd d hdst) (c := ⟨.slice ee t, .own (elemMode hn (some d)), l⟩) (v := .slice (some ⟨w.heap.size, 0, none⟩) n n) rfl hO
          exact do_run hrun (by rw [hdst]; exact hrel3) hκ (fun _ => hbel)
      · cases hκ
    · cases hκ
  · cases hκ
end
end Go.Proofs.Ytdnkjfmneppkoaa.Vm
namespace Go.Proofs.Ytdnkjfmneppkoaa.Vm
open Go Go.RowKit
set_option linter.unusedVariables false
section
variable {S : Cx} {α : Type} {g : Gl S} {own : Nat → Option Own} {st : ST S} {a : Act} {w : World}
theorem Rel.asMem (h : Rel g own st a w) (hn : Hint) {d : Nat} (hpin : g.pin d = none) (hd : d < a.tmps.size) {c : MV S.toNm} {b0 : Nat} {cells : Array Value} {e : TypeId} (hb0 : own b0 = some (.lim, none))
    (hcell : w.heap[b0]? = some (.cells cells e (0, 0))) (hO : S.OW w own (g.Z own w) .lim c.t c.m [] cells.toList c.x) :
    ∃ own', Rel g own' (st.newMem hn d c) (a.put (some d) (.pointer (some ⟨b0, 0, none⟩))) w := by
  let own1 := relab own .lim [] (.mem d) []
  have hnone1 : ∀ b, own b = none → own1 b = none := fun b hb => by
    show relab own .lim [] (.mem d) [] b = none
    rw [relab_ne (by rintro ⟨s, e⟩; rw [hb] at e; cases e)]; exact hb
  have h1 : Rel g own1 st a w := h.lim fun b => by
    by_cases hb : ∃ s, own b = some (.lim, some ([] ++ s))
    · obtain ⟨s, hb⟩ := hb
      refine .inr ⟨⟨_, hb⟩, ?_, fun k => ?_⟩ <;> rw [show own1 b = _ from relab_at hb] <;> simp
    · exact .inl (relab_ne hb)
  have hb1 : own1 b0 = some (.lim, none) := by
    show relab own .lim [] (.mem d) [] b0 = _
    rw [relab_ne (by rintro ⟨s, e⟩; rw [hb0] at e; cases e)]; exact hb0
  have hO1 : S.OW w own1 (g.Z own1 w) (.mem d) c.t c.m [] cells.toList c.x :=
    OW_frame (fun b hb => ⟨hb.1, hb.2.1, hnone1 b hb.2.2⟩) (fun _ _ => rfl) _ _ _ _ _ _ (fun b q hb => ⟨relab_at hb, rfl⟩) hO
  let own2 : Nat → Option Own := fun b => if b = b0 then some (.mem d, none) else if own1 b = some (.mem d, none) then some (.lim, none) else own1 b
  have o_new : own2 b0 = some (.mem d, none) := by simp [own2]
  have o_old : ∀ b, b ≠ b0 → own1 b ≠ some (.mem d, none) → own2 b = own1 b := fun b hb hne => by simp [own2, hb, hne]
  have o_none : ∀ b, own1 b = none → own2 b = none := fun b hb => by
    rw [o_old b (fun e => by rw [e, hb1] at hb; cases hb) (by rw [hb]; simp)]; exact hb
  have o_some : ∀ b r q, own1 b = some (r, some q) → own2 b = some (r, some q) := fun b r q hb => by
    rw [o_old b (fun e => by rw [e, hb1] at hb; cases hb) (by rw [hb]; simp), hb]
  have o_mem : ∀ k b, k ≠ d → own1 b = some (.mem k, none) → own2 b = some (.mem k, none) := fun k b hk hb => by
    rw [o_old b (fun e => by rw [e, hb1] at hb; cases hb) (by rw [hb]; simpa using hk), hb]
  have o_mem' : ∀ k b, k ≠ d → own2 b = some (.mem k, none) → own1 b = some (.mem k, none) := fun k b hk hb => by
    simp only [own2] at hb
    split at hb
    · simp at hb; exact absurd hb.symm hk
    · split at hb
      · simp at hb
      · exact hb
  have o_d : ∀ b, own2 b = some (.mem d, none) → b = b0 := fun b hb => by
    simp only [own2] at hb
    split at hb
    · assumption
    · split at hb
      · simp at hb
      · rename_i hne; exact absurd hb hne
  have o_ne : ∀ b, own2 b ≠ none → own1 b ≠ none := fun b hb e => hb (o_none b e)
  have hZ : ∀ b, g.Z own1 w b → g.Z own2 w b := fun b hb => ⟨hb.1, hb.2.1, o_none b hb.2.2⟩
  have hOW : ∀ {r : Root} {t : Ty} {m : Mode} {p : Path} {cs' : List Value} {x : S.den t}, S.OW w own1 (g.Z own1 w) r t m p cs' x →
      S.OW w own2 (g.Z own2 w) r t m p cs' x := fun hO => OW_frame hZ (fun _ _ => rfl) _ _ _ _ _ _ (fun b q hb => ⟨o_some b _ _ hb, rfl⟩) hO
  let st2 : ST S := { st.drop (.mem d) with mems := upd st.mems d c }
  have hlook : ∀ i, st2.look i = .dead ∨ (st2.look i = st.look i ∧ (st.look i).rooted (.mem d) = false) := fun i => by
    have e : st2.look i = (st.drop (.mem d)).look i := rfl
    rw [e, St.drop, look_killBy _ _ _ rfl]
    cases hh : (st.look i).rooted (.mem d)
    · exact .inr ⟨rfl, rfl⟩
    · exact .inl rfl
  have hroot : ∀ r, r ≠ .mem d → st2.root r = st.root r := fun r hr => by
    cases r with
    | slot s =>
      have : st2.root (.slot s) = (st.drop (.mem d)).root (.slot s) := rfl
      rw [this]; exact root_killBy st _ (fun _ _ _ => rfl) rfl _
    | mem k =>
      have hk : k ≠ d := fun e => hr (by rw [e])
      simp only [St.root, st2, lookup_upd, if_neg hk]
    | lim => rfl
  have hrd : st2.root (.mem d) = some c := by simp [St.root, st2, lookup_upd]
  have hplace : ∀ {r p l cs' c'}, r ≠ .mem d → Place st own1 a w r p l cs' c' → Place st2 own2 a w r p l cs' c' := fun hr hp =>
    Place_own hp (hroot _ hr) (fun _ _ => rfl) (fun k b he hb => o_mem k b (fun e => hr (by rw [he, e])) hb)
  have hrel : Rel g own2 st2 a w := by
    refine ⟨h1.os, h1.tape, h1.output, h1.size, h1.block, fun b hb => h1.fresh b (o_ne b hb), fun i => ?_, fun k c' hk => ?_, h1.defs, fun k b b' hp hb => h1.pins k b b' hp (o_mem' k b' (fun e => by rw [e, hpin] at hp; cases hp) hb)⟩
    · rcases hlook i with e' | ⟨e', hr⟩
      · rw [e']; trivial
      · rw [e']
        have hv := h1.vals i
        generalize st.look i = A at *
        cases A with
        | dead => trivial
        | und => exact hv
        | v t m y => obtain ⟨cs', e1, e2⟩ := hv; exact ⟨cs', e1, hOW e2⟩
        | tup t m y => obtain ⟨vs, e1, e2⟩ := hv; exact ⟨vs, e1, TupR_frame hZ (fun _ _ => rfl) _ _ _ e2⟩
        | rp t y =>
          obtain ⟨b, off, cs', e1, e2, e3, e4⟩ := hv
          exact ⟨b, off, cs', e1, hZ b e2, e3, e4.frame hZ (fun _ _ => rfl)⟩
        | ref r p =>
          obtain ⟨l, cs', c', e1, e2⟩ := hv
          exact ⟨l, cs', c', hplace (fun e => by subst e; simp [AVal.rooted] at hr) e1, e2⟩
        | addr r p =>
          obtain ⟨b, off, cs', c', e1, e2⟩ := hv
          exact ⟨b, off, cs', c', hplace (fun e => by subst e; simp [AVal.rooted] at hr) e1, e2⟩
        | fn g' cs' =>
          obtain ⟨vs, f1, f2⟩ := hv
          refine ⟨vs, f1, f2.mono fun c hcm v hc => ?_⟩
          cases c with
          | d t' y =>
            obtain ⟨b, off, cs', e1, e2, e3, e4⟩ := hc
            exact ⟨b, off, cs', e1, hZ b e2, e3, e4.frame hZ (fun _ _ => rfl)⟩
          | m k =>
            obtain ⟨b, off, cs', c', e1, e2⟩ := hc
            exact ⟨b, off, cs', c', hplace (cap_rooted hr hcm) e1, e2⟩
    · by_cases hkd : k = d
      · subst hkd
        have : c' = c := by
          have hk' : st2.root (.mem k) = some c' := hk
          rw [hrd] at hk'; exact (Option.some.inj hk').symm
        subst this
        exact ⟨b0, e, cells, o_new, hcell, hOW hO1, o_d⟩
      · have hk' : st2.root (.mem k) = some c' := hk
        rw [hroot _ (by simpa using hkd)] at hk'
        obtain ⟨b, e', cells, g1, g2, g3, g4⟩ := h1.mems k c' hk'
        exact ⟨b, e', cells, o_mem k b hkd g1, g2, hOW g3, fun b' hb' => g4 b' (o_mem' k b' hkd hb')⟩
  refine ⟨own2, ?_⟩
  have : st.newMem hn d c = st2.put hn d (.addr (.mem d) []) := rfl
  rw [this]
  refine hrel.put hn hd ⟨b0, 0, cells.toList, c, ?_, rfl⟩
  refine ⟨c.t, c.m, c.x, some (b0, 0), cells.toList, ?_, (fun s hs => by cases hs), ⟨b0, e, cells, rfl, o_new, hcell, rfl⟩, okP_nil, nav_nil, getP_nil⟩
  have : (st2.put hn d (.addr (.mem d) [])).root (.mem d) = st2.root (.mem d) := by simp only [St.root, put_mems]
  rw [this, hrd]
noncomputable def limmem (own : Nat → Option Own) (k : Nat) : Nat → Option Own := fun b => match own b with
  | some (.mem i, q) => if i = k then some (.lim, q) else some (.mem i, q)
  | o => o
theorem limmem_at {own : Nat → Option Own} {k b : Nat} {q : Option Path} (h : own b = some (.mem k, q)) : limmem own k b = some (.lim, q) := by simp only [limmem, h, if_pos]
theorem limmem_ne {own : Nat → Option Own} {k b : Nat} (h : ∀ q, own b ≠ some (.mem k, q)) : limmem own k b = own b := by
  unfold limmem
  split
  · rename_i i q e
    rw [if_neg (fun hi => h q (by rw [e, hi]))]; exact e.symm
  · rfl
theorem limmem_none {own : Nat → Option Own} {k b : Nat} (h : own b = none) : limmem own k b = none := by
  rw [limmem_ne (fun q e => by rw [h] at e; cases e)]; exact h
theorem limmem_keep {own : Nat → Option Own} {k b : Nat} {r : Root} {q : Option Path} (h : own b = some (r, q)) (hr : r ≠ .mem k) : limmem own k b = some (r, q) := by
  rw [limmem_ne (fun q' e => by rw [h] at e; exact hr (Prod.mk.inj (Option.some.inj e)).1)]; exact h
theorem limmem_inv {own : Nat → Option Own} {k b i : Nat} {q : Option Path} (h : limmem own k b = some (.mem i, q)) : own b = some (.mem i, q) := by
  by_cases he : ∃ q, own b = some (.mem k, q)
  · obtain ⟨q', he⟩ := he
    rw [limmem_at he] at h; cases h
  · rw [limmem_ne (fun q e => he ⟨q, e⟩)] at h; exact h
theorem limmem_some {own : Nat → Option Own} {k b : Nat} (h : limmem own k b ≠ none) : own b ≠ none := fun e => h (limmem_none e)
theorem Rel.limLess (h : Rel g own st a w) (k : Nat) : Rel g (limmem own k) (st.less k) a w := by
  have hZ : ∀ b', g.Z own w b' → g.Z (limmem own k) w b' := fun b' hb => ⟨hb.1, hb.2.1, limmem_none hb.2.2⟩
  have hlook : ∀ i, (st.less k).look i = .dead ∨ ((st.less k).look i = st.look i ∧ (st.look i).rooted (.mem k) = false) := fun i => by
    have e : (st.less k).look i = (st.drop (.mem k)).look i := rfl
    rw [e, St.drop, look_killBy _ _ _ rfl]
    cases hh : (st.look i).rooted (.mem k)
    · exact .inr ⟨rfl, rfl⟩
    · exact .inl rfl
  have hroot : ∀ r, r ≠ .mem k → (st.less k).root r = st.root r := fun r hr => by
    cases r with
    | slot s =>
      have : (st.less k).root (.slot s) = (st.drop (.mem k)).root (.slot s) := rfl
      rw [this]; exact root_killBy st _ (fun _ _ _ => rfl) rfl _
    | mem k' =>
      have hk' : k' ≠ k := fun e => hr (by rw [e])
      simp only [St.root, St.less, lookup_less, if_neg hk']
    | lim => rfl
  have hplace : ∀ {r p l cs' c'}, r ≠ .mem k → Place st own a w r p l cs' c' → Place (st.less k) (limmem own k) a w r p l cs' c' := fun hr hp =>
    Place_own hp (hroot _ hr) (fun _ _ => rfl) (fun k' b he hb' => limmem_keep hb' (by rw [← he]; exact hr))
  refine ⟨h.os, h.tape, h.output, h.size, h.block, fun b' hb' => h.fresh b' (limmem_some hb'), fun i => ?_, fun k' c' hk' => ?_, h.defs, fun k' b1 b2 hp hb2 => h.pins k' b1 b2 hp (limmem_inv hb2)⟩
  · rcases hlook i with e | ⟨e, hr⟩
    · rw [e]; trivial
    · rw [e]
      have hv := h.vals i
      generalize st.look i = A at *
      cases A with
      | dead => trivial
      | und => exact hv
      | v t m y =>
        obtain ⟨cs', e1, e2⟩ := hv
        exact ⟨cs', e1, OW_frame hZ (fun _ _ => rfl) _ _ _ _ _ _ (fun b' q hb' => ⟨limmem_keep hb' (by simp), rfl⟩) e2⟩
      | tup t m y => obtain ⟨vs, e1, e2⟩ := hv; exact ⟨vs, e1, TupR_frame hZ (fun _ _ => rfl) _ _ _ e2⟩
      | rp t y =>
        obtain ⟨b', off', cs', e1, e2, e3, e4⟩ := hv
        exact ⟨b', off', cs', e1, hZ b' e2, e3, e4.frame hZ (fun _ _ => rfl)⟩
      | ref r p =>
        obtain ⟨l, cs', c', e1, e2⟩ := hv
        exact ⟨l, cs', c', hplace (fun e => by subst e; simp [AVal.rooted] at hr) e1, e2⟩
      | addr r p =>
        obtain ⟨b', off', cs', c', e1, e2⟩ := hv
        exact ⟨b', off', cs', c', hplace (fun e => by subst e; simp [AVal.rooted] at hr) e1, e2⟩
      | fn g' cs' =>
        obtain ⟨vs, f1, f2⟩ := hv
        refine ⟨vs, f1, f2.mono fun c hcm v hc => ?_⟩
        cases c with
        | d t' y =>
          obtain ⟨b', off', cs', e1, e2, e3, e4⟩ := hc
          exact ⟨b', off', cs', e1, hZ b' e2, e3, e4.frame hZ (fun _ _ => rfl)⟩
        | m k =>
          obtain ⟨b', off', cs', c', e1, e2⟩ := hc
          exact ⟨b', off', cs', c', hplace (cap_rooted hr hcm) e1, e2⟩
  · have hkk : k' ≠ k := fun e => by subst e; simp [St.less, lookup_less] at hk'
    have hk'' : st.mems.lookup k' = some c' := by simpa [St.less, lookup_less, hkk] using hk'
    obtain ⟨b', e', cells', g1', g2', g3', g4'⟩ := h.mems k' c' hk''
    have hne : Root.mem k' ≠ .mem k := by simpa using hkk
    exact ⟨b', e', cells', limmem_keep g1' hne, g2', OW_frame hZ (fun _ _ => rfl) _ _ _ _ _ _ (fun b'' q hb'' => ⟨limmem_keep hb'' hne, rfl⟩) g3', fun b'' hb'' => g4' b'' (limmem_inv hb'')⟩
theorem Rel.limCall (h : Rel g own st a w) {w' : World} {own' : Nat → Option Own} (b0 : Option Nat) (hos : w'.os = w.os) (htape : w'.tape = w.tape) (hout : w'.output = w.output) (hsize : w.heap.size ≤ w'.heap.size)
    (hb0 : ∀ b, b0 = some b → ∃ q, own b = some (.lim, q)) (hblk : ∀ b, b < w.heap.size → b0 ≠ some b → w'.heap[b]? = w.heap[b]?)
    (hown : ∀ b, b < w.heap.size → own' b = own b) (hnew : ∀ b, w.heap.size ≤ b → own' b ≠ none → b < w'.heap.size ∧ ∃ q, own' b = some (.lim, q)) : Rel g own' (st.killBy AVal.deep) a w' := by
  have hlt : ∀ b, own b ≠ none → b < w.heap.size := fun b hb => (h.fresh b hb).2
  have hso : ∀ b r q, own b = some (r, q) → own' b = some (r, q) := fun b r q hb => by rw [hown b (hlt b (by rw [hb]; simp))]; exact hb
  have hnot : ∀ b, (∀ q, own b ≠ some (.lim, q)) → b0 ≠ some b := fun b hb e => by obtain ⟨q, hq⟩ := hb0 b e; exact hb q hq
  have hZ : ∀ b, g.Z own w b → g.Z own' w' b := fun b hb => ⟨hb.1, Nat.lt_of_lt_of_le hb.2.1 hsize, by rw [hown b hb.2.1]; exact hb.2.2⟩
  have hZw : ∀ b, g.Z own w b → w'.heap[b]? = w.heap[b]? := fun b hb => hblk b hb.2.1 (hnot b (fun q e => by rw [hb.2.2] at e; cases e))
  have hne : ∀ b' r q', own b' = some (r, q') → r ≠ .lim → w'.heap[b']? = w.heap[b']? := fun b' r q' hb' hr => hblk b' (hlt b' (by rw [hb']; simp)) (hnot b' (fun q e => by
    rw [hb'] at e; exact hr (Prod.mk.inj (Option.some.inj e)).1))
  have hmem : ∀ k b, own' b = some (.mem k, none) → own b = some (.mem k, none) := fun k b hb => by
    by_cases hbw : b < w.heap.size
    · rw [← hown b hbw]; exact hb
    · obtain ⟨_, q, e⟩ := hnew b (by omega) (by rw [hb]; simp)
      rw [hb] at e; cases e
  have hroot : ∀ r', (st.killBy AVal.deep).root r' = st.root r' := fun r' => root_killBy st _ (fun _ _ _ => rfl) rfl r'
  have hRoot : ∀ r' t l cs', RootAt own a w r' t l cs' → RootAt own' a w' r' t l cs' := fun r' t l cs' hR => by
    cases r' with
    | slot s => exact hR
    | lim => exact hR
    | mem k =>
      obtain ⟨b', e', cl, f1, f2, f3, f4⟩ := hR
      exact ⟨b', e', cl, f1, hso _ _ _ f2, by rw [hne b' _ _ f2 (by simp)]; exact f3, f4⟩
  have hOW : ∀ {r : Root} {t : Ty} {m : Mode} {p : Path} {cs' : List Value} {x : S.den t}, r ≠ .lim → S.OW w own (g.Z own w) r t m p cs' x → S.OW w' own' (g.Z own' w') r t m p cs' x := fun hr hO =>
    OW_frame hZ hZw _ _ _ _ _ _ (fun b' q' hb' => ⟨hso _ _ _ hb', hne b' _ _ hb' hr⟩) hO
  refine ⟨hos.trans h.os, htape.trans h.tape, hout.trans h.output, Nat.le_trans h.size hsize, fun b' hb' hio => ?_, fun b' hb' => ?_, fun i => ?_, fun k c hk => ?_, h.defs, fun k b b' hp hb => h.pins k b b' hp (hmem k b' hb)⟩
  · refine (hblk b' (Nat.lt_of_lt_of_le hb' h.size) fun e => ?_).trans (h.block b' hb' hio)
    obtain ⟨q, hq⟩ := hb0 b' e
    rcases (h.fresh b' (by rw [hq]; simp)).1 with hf | hf
    · omega
    · exact hio hf
  · by_cases hbw : b' < w.heap.size
    · have : own b' ≠ none := by rw [← hown b' hbw]; exact hb'
      exact ⟨(h.fresh b' this).1, Nat.lt_of_lt_of_le hbw hsize⟩
    · exact ⟨.inl (Nat.le_trans h.size (by omega)), (hnew b' (by omega) hb').1⟩
  · rw [look_killBy _ _ _ rfl]
    have hv := h.vals i
    cases hd : (st.look i).deep
    · simp only
      generalize st.look i = A at *
      cases A with
      | dead => trivial
      | und => exact hv
      | v t' m'' y =>
        obtain ⟨cs', e1, e2⟩ := hv
        exact ⟨cs', e1, hOW (by simp) e2⟩
      | tup t' m'' y =>
        obtain ⟨vs, e1, e2⟩ := hv
        exact ⟨vs, e1, TupR_frame hZ hZw _ _ _ e2⟩
      | rp t' y =>
        obtain ⟨b', off', cs', e1, e2, e3, e4⟩ := hv
        exact ⟨b', off', cs', e1, hZ b' e2, by rw [cellsAt_same (hZw b' e2)]; exact e3, e4.frame hZ hZw⟩
      | ref r' p' =>
        obtain ⟨l1, cs1, c1, e1, e2⟩ := hv
        exact ⟨l1, cs1, c1, Place_world e1 (by simpa [AVal.deep] using hd) (hroot r') (hRoot r'), e2⟩
      | addr r' p' =>
        obtain ⟨b', off', cs1, c1, e1, e2⟩ := hv
        exact ⟨b', off', cs1, c1, Place_world e1 (by simpa [AVal.deep] using hd) (hroot r') (hRoot r'), e2⟩
      | fn g' cs' =>
        obtain ⟨vs, f1, f2⟩ := hv
        refine ⟨vs, f1, f2.mono fun c hcm v hc => ?_⟩
        cases c with
        | d t' y =>
          obtain ⟨b', off', cs', e1, e2, e3, e4⟩ := hc
          exact ⟨b', off', cs', e1, hZ b' e2, by rw [cellsAt_same (hZw b' e2)]; exact e3, e4.frame hZ hZw⟩
        | m k =>
          obtain ⟨b', off', cs1, c1, e1, e2⟩ := hc
          exact ⟨b', off', cs1, c1, Place_world e1 rfl (hroot _) (hRoot _), e2⟩
    · trivial
  · obtain ⟨b', e, cells, g1, g2, g3, g4⟩ := h.mems k c hk
    exact ⟨b', e, cells, hso _ _ _ g1, by rw [hne b' _ _ g1 (by simp)]; exact g2, hOW (by simp) g3, fun b'' hb'' => g4 b'' (hmem k b'' hb'')⟩
end
end Go.Proofs.Ytdnkjfmneppkoaa.Vm
namespace Go.Proofs.Ytdnkjfmneppkoaa.Vm
open Go Go.RowKit
set_option linter.unusedVariables false
section
variable {S : Cx} {α : Type} {g : Gl S} {own : Nat → Option Own} {st : ST S} {a : Act} {w : World}
theorem run_checkKey_int {P : Program} {e : TypeId} {kk k : IntKind} {z : Int} (hu : P.underlying e = some (.int kk)) (em : Bool) (d : Nat) (w : World) : (Instr.checkKey em (d + 1) e (.int k z)).run P w = .ok () w := by
  simp [Instr.checkKey, run_underlying hu]
theorem run_checkKey_arr {P : Program} {E : Env S} (T : TysOk P E) {kt e n : Nat} {kk : IntKind} (hu : P.underlying kt = some (.array n e)) (he : E.tys.lookup e = some (.int kk)) (em : Bool) (d : Nat) {x : List Int} {cs : List Value} {w0 : World} {Z : Nat → Prop}
    (r : S.R w0 Z (.arr n (.int kk)) cs x) (w : World) : (Instr.checkKey em (d + 2) kt (.agg cs.toArray)).run P w = .ok () w := by
  obtain ⟨a1, a2, a3⟩ := Cx.R_arr.1 r
  have hs : S.size (.int kk) = 1 := rfl
  rw [hs] at a2 a3
  have tff := T _ _ he
  have hpart : ∀ (i : Nat) (w : World), i < n → (part e cs.toArray (i * 1)).run P w = .ok (.int kk (x.getD i 0)) w := fun i w hi => by
    have pa := run_partAt (S := S) tff w cs (i * 1) (by rw [hs, a2]; omega)
    rw [hs, Cx.R_int.1 (a3 i (x.getD i 0) (getD_nth (l := x) 0 (a1.symm ▸ hi)))] at pa
    exact pa
  unfold Instr.checkKey
  simp only [Sem.run_bind, run_underlying hu, Result.andThen_ok]
  simp only [Std.Legacy.Range.forIn_eq_forIn_range', Std.Legacy.Range.size, Nat.sub_zero, Nat.add_one_sub_one, Nat.div_one]
  have hr : ∀ i ∈ List.range' 0 n, i < n := fun i hi => by simp at hi; omega
  generalize List.range' 0 n = is at hr
  induction is with
  | nil => rfl
  | cons i is ih =>
    have h1 := hpart i w (hr i (List.mem_cons_self ..))
    simp only [List.forIn_cons, Sem.run_bind, tff.size w, hs, Result.andThen_ok, h1, run_checkKey_int tff.und]
    exact ih (fun j hj => hr j (List.mem_cons_of_mem _ hj))
theorem run_find {P : Program} {E : Env S} (ok : S.Ok) (T : TysOk P E) {kt : Nat} {k v : Ty} (hk : k.isKey = true) (hl : E.tys.lookup kt = some k) (y : S.den k) (kc : List Value) {w0 : World} (hy : S.R w0 (fun _ => False) k kc y) :
    ∀ (es : List MapEntry) (l : List (S.den k × S.den v)) (i0 : Nat), S.Ents w0 k v es l →
    ∃ res, (∀ w, (Instr.findAsking kt (.agg kc.toArray) es i0).run P w = .ok res w) ∧
      ((res = none ∧ findM (S.eqB k) y l = none ∧ ∀ b, putM (S.eqB k) y b l = l ++ [(y, b)]) ∨
       ∃ i e x, es[i]? = some e ∧ nth l i = some x ∧ res = some (i0 + i, e.val) ∧ S.eqB k y x.1 = true ∧ findM (S.eqB k) y l = some x.2 ∧ ∀ b, putM (S.eqB k) y b l = l.set i (y, b)) := by
  obtain ⟨n, kk, rfl⟩ : ∃ n kk, k = .agg (.arr n (.int kk)) := by
    cases k with
    | agg t => cases t with
      | arr n e => cases e with
        | int kk => exact ⟨n, kk, rfl⟩
        | _ => cases hk
      | _ => cases hk
    | _ => cases hk
  intro es
  induction es with
  | nil =>
    intro l i0 h
    have : l = [] := by
      have := h.1
      simp at this
      exact List.eq_nil_of_length_eq_zero this.symm
    subst this
    exact ⟨none, fun _ => rfl, .inl ⟨rfl, rfl, fun b => rfl⟩⟩
  | cons e es ih =>
    intro l i0 h
    match l, h with
    | [], h => have := h.1; simp at this
    | x :: l, h =>
      obtain ⟨⟨c1, b1, b2⟩, _⟩ := h.2 0 e x rfl rfl
      have hkey : e.key = .agg c1.toArray := b1
      have heq' : ∀ w, (Op.equal kt (.agg kc.toArray) (.agg c1.toArray)).run P w = .ok (S.eqB (.agg (.arr n (.int kk))) y x.1) w := fun w =>
        run_eqIn (P := P) (E := E) ok T (.agg (.arr n (.int kk))) Op.maxDepth kt y x.1 kc c1 w w0 (fun _ => False) rfl hl (by show 2 ≤ 10000; omega) hy b2
      have htl : S.Ents w0 (.agg (.arr n (.int kk))) v es l := ⟨by have := h.1; simpa using this, fun i e' x' he hx => h.2 (i + 1) e' x' (by simpa using he) (by simpa [nth] using hx)⟩
      simp only [Instr.findAsking, hkey, Sem.run_bind, heq', Result.andThen_ok]
      cases hb : S.eqB (.agg (.arr n (.int kk))) y x.1 with
      | true => exact ⟨some (i0, e.val), fun _ => rfl, .inr ⟨0, e, x, rfl, rfl, rfl, hb, by simp only [findM, hb], fun b => by simp only [putM, hb, List.set_cons_zero]⟩⟩
      | false =>
        obtain ⟨res, r1, r2⟩ := ih l (i0 + 1) htl
        refine ⟨res, fun w => by simpa using r1 w, ?_⟩
        rcases r2 with ⟨q1, q2, q3⟩ | ⟨i, e', x', q1, q2, q3, q4, q5, q6⟩
        · exact .inl ⟨q1, by simp only [findM, hb]; exact q2, fun b => by simp only [putM, hb]; rw [q3]; rfl⟩
        · exact .inr ⟨i + 1, e', x', by simpa using q1, by simpa [nth] using q2, by rw [q3]; congr 2; omega, q4, by simp only [findM, hb]; exact q5, fun b => by simp only [putM, hb]; rw [q6]; rfl⟩
theorem key_parts {P : Program} {E : Env S} (T : TysOk P E) {kt : Nat} {k : Ty} (hk : k.isKey = true) (hl : E.tys.lookup kt = some k) : ∃ n e kk, k = .agg (.arr n (.int kk)) ∧ P.underlying kt = some (.array n e) ∧ E.tys.lookup e = some (.int kk) := by
  cases k with
  | agg t => cases t with
    | arr n e => cases e with
      | int kk =>
        rcases (T _ _ hl).und with ⟨fs, _, hf⟩ | ⟨n', v, e', heq, hu, he, _⟩
        · exact (arr_struct T hf).elim
        · cases heq; exact ⟨n, e', kk, rfl, hu, he⟩
      | _ => cases hk
    | _ => cases hk
  | _ => cases hk
theorem scalar_R' {w w' : World} {Z Z' : Nat → Prop} : ∀ (t : Ty) (cs : List Value) (x : S.den t), t.scalar = true → S.R w Z t cs x → S.R w' Z' t cs x := by
  intro t
  induction t with
  | int k => intro cs x _ h; exact Cx.R_int.2 (Cx.R_int.1 h)
  | bool => intro cs x _ h; exact Cx.R_bool.2 (Cx.R_bool.1 h)
  | str => intro cs x _ h; exact Cx.R_str.2 (Cx.R_str.1 h)
  | unit => intro cs x _ h; exact Cx.R_unit.2 (Cx.R_unit.1 h)
  | pair a b iha ihb =>
    intro cs x hs h
    simp only [Ty.scalar, Bool.and_eq_true] at hs
    obtain ⟨c1, c2, h1, h2, h3, h4⟩ := Cx.R_pair.1 h
    exact Cx.R_pair.2 ⟨c1, c2, h1, h2, iha _ _ hs.1 h3, ihb _ _ hs.2 h4⟩
  | agg t ih => intro cs x hs h; exact Cx.R_agg.2 (ih _ _ hs (Cx.R_agg.1 h))
  | _ => intro cs x hs _; cases hs
theorem key_R {w w' : World} {Z Z' : Nat → Prop} {k : Ty} {cs : List Value} {x : S.den k} (hk : k.isKey = true) (h : S.R w Z k cs x) : S.R w' Z' k cs x := by
  cases k with
  | agg t => cases t with
    | arr n e => cases e with
      | int kk =>
        obtain ⟨h1, h2, h3⟩ := Cx.R_arr.1 (Cx.R_agg.1 h)
        exact Cx.R_agg.2 (Cx.R_arr.2 ⟨h1, h2, fun i y hy => Cx.R_int.2 (Cx.R_int.1 (h3 i y hy))⟩)
      | _ => cases hk
    | _ => cases hk
  | _ => cases hk
theorem run_zeroValue' {P : Program} {t : Nat} {i : TypeInfo} {z : Value} (h1 : P.info? t = some i) (h2 : i.zero = some z) (w : World) : (zeroValue t).run P w = .ok z w := by
  simp [zeroValue, typeInfo, h1, h2]
theorem do_makeMap {o : Oper} {t : TypeId} {res : Option Operand} {hn : Hint} {κ : ST S → Option α} {r : α} (ok : S.Ok) (h : Rel g own st a w) (hd : ∀ d, o.dst = some d → d < a.tmps.size)
    (ho : o.op = .makeMap t res) (hκ : opK g.E hn o st κ = some r) : Do g true o a w κ r := by
  simp only [opK, ho] at hκ
  split at hκ
  · split at hκ
    · rename_i k v d e1 hdst
      obtain ⟨own1, o1, h1, _, _⟩ := h.newRow (.map #[] 0) (some [])
      have hblk : (w.alloc (.map #[] 0)).heap[w.heap.size]? = some (.map #[] 0) := (MapKept.heap_alloc w _).1
      obtain ⟨own2, h2⟩ := put_lim h1 hn (hd d hdst) (c := ⟨.map k v, mapM, []⟩) (v := .map (some w.heap.size)) (cs := [.map (some w.heap.size)]) rfl
        ⟨w.heap.size, #[], 0, rfl, o1, hblk, by simp, fun i e x he => by simp at he⟩
      refine do_run (v := .map (some w.heap.size)) ?_ (by rw [hdst]; exact h2) hκ (fun _ => (Below.refl _ w).alloc (Nat.le_refl _) _)
      simp only [execOp, ho]
      rfl
    · cases hκ
  · cases hκ
theorem run_lookupM {P : Program} {t kt et b : Nat} {es : Array MapEntry} {clock : Nat} {key : Value} {two : Bool} {w : World} {res : Option (Nat × Value)} {z0 : Value} (hu : P.underlying t = some (.map kt et)) (hb : w.heap[b]? = some (.map es clock))
    (hchk : ∀ em, (Instr.checkKey em 10000 kt key).run P w = .ok () w) (hf : (Instr.findKey kt key es.toList).run P w = .ok res w) (hz : (zeroValue et).run P w = .ok z0 w) :
    (Instr.lookup t (.map (some b)) key two).run P w = .ok (if two then .tuple #[(res.map (·.2)).getD z0, .bool res.isSome] else (res.map (·.2)).getD z0) w := by
  simp only [Instr.lookup, Sem.run_bind, run_underlying hu, Result.andThen_ok, MapKept.run_getObj_map hb]
  simp only [Sem.run_pure, Result.andThen_ok, hchk, hf]
  cases res with
  | none => simp only [Sem.run_bind, hz, Result.andThen_ok]; cases two <;> rfl
  | some p => cases two <;> rfl
theorem rd_lookup {o : Oper} {t : TypeId} {x i : Operand} {two : Bool} {hn : Hint} {κ : ST S → Option α} {r : α} (ok : S.Ok) (T : TysOk g.P g.E) (h : Rel g own st a w) (hd : ∀ d, o.dst = some d → d < a.tmps.size)
    (ho : o.op = .lookup t x i two) (hκ : opK g.E hn o st κ = some r) : Rd g o a w κ r := by
  simp only [opK, ho] at hκ
  split at hκ
  · rename_i rt p ex
    split at hκ
    · rename_i k v m l e2
      split at hκ
      · rename_i m1 m2 c hb hc
        simp only [Bool.and_eq_true] at hb
        obtain ⟨⟨ht, hk⟩, hs⟩ := hb
        split at hκ
        · rename_i y hy
          obtain ⟨b, es, clock, _, _, v1, hown, hlt, hblk, hE⟩ := map_at ok h ex e2
          obtain ⟨kt, et, hu, hkt, het⟩ := (T _ _ (Env.is_lookup ht)).und
          obtain ⟨n, e, kk, rfl, huk, he⟩ := key_parts T hk hkt
          obtain ⟨cs, hVS, hR⟩ := val_ok ok g.E h hc
          obtain ⟨hty, rfl⟩ := cast_some hy
          obtain ⟨ct, cm, cx⟩ := c
          simp only at hty hVS hR
          subst hty
          have v2 : a.eval i = .agg cs.toArray := hVS
          have hkey : S.R w (fun _ => False) (.agg (.arr n (.int kk))) cs cx := key_R hk hR
          obtain ⟨iz, z0, i1, _, i3, i4, _⟩ := (T _ _ het).info
          have hz : ∀ w', (zeroValue et).run g.P w' = .ok z0 w' := fun w' => run_zeroValue' i1 i3 w'
          have hnm : noName v = true := (T _ _ het).named (by cases v <;> first | rfl | cases hs)
          obtain ⟨res, r1, r2⟩ := run_find (P := g.P) (E := g.E) ok T (v := v) hk hkt cx cs hkey es.toList l 0 hE
          have hchk : ∀ em w', (Instr.checkKey em 10000 kt (.agg cs.toArray)).run g.P w' = .ok () w' := fun em w' => run_checkKey_arr (S := S) T huk he em 9998 (Cx.R_agg.1 hkey) w'
          have hwide : (match g.P.underlying kt with | some (.array _ _) | some (.struct _) => true | _ => false) = true := by rw [huk]
          have hrun : ∀ w', Below w.heap.size w w' → (Instr.lookup t (.map (some b)) (.agg cs.toArray) two).run g.P w' = .ok (if two then .tuple #[(res.map (·.2)).getD z0, .bool res.isSome] else (res.map (·.2)).getD z0) w' := fun w' hw' =>
            run_lookupM hu (by rw [hw'.block b hlt]; exact hblk) (fun em => hchk em w') ((run_findKey_eq w' hwide _ _).trans (r1 w')) (hz w')
          have hval : ∃ vc, VS v ((res.map (·.2)).getD z0) vc ∧ S.R w (g.Z own w) v vc (Option.getD (findM (S.eqB (.agg (.arr n (.int kk)))) cx l) (S.zero v)) := by
            rcases r2 with ⟨q1, q2, q3⟩ | ⟨j, e', x', q1, q2, q3, q4, q5, q6⟩
            · exact ⟨zc v, by rw [q1]; exact i4, by rw [q2]; exact R_zc _ hnm⟩
            · obtain ⟨_, vc, p1, p2⟩ := hE.2 j e' x' q1 q2
              exact ⟨vc, by rw [q3]; exact p1, by rw [q5]; exact p2.frame (fun _ h => h.elim) (fun _ h => h.elim)⟩
          have hsome : res.isSome = Option.isSome (findM (S.eqB (.agg (.arr n (.int kk)))) cx l) := by
            rcases r2 with ⟨q1, q2, q3⟩ | ⟨j, e', x', q1, q2, q3, q4, q5, q6⟩
            · rw [q1, q2]; rfl
            · rw [q3, q5]; rfl
          have hex : ∀ w', Below w.heap.size w w' → (execOp a.eval o).run g.P w' = .ok (.value (if two then .tuple #[(res.map (·.2)).getD z0, .bool res.isSome] else (res.map (·.2)).getD z0)) w' := fun w' hw' => by
            simp only [execOp, ho, v1, v2]
            exact run_v (hrun w' hw')
          obtain ⟨vc, p1, p2⟩ := hval
          split at hκ
          · cases hdst : o.dst with
            | none => rw [hdst] at hκ; exact ⟨_, own, st, hex, by rw [hdst]; exact h, hκ⟩
            | some d =>
              rw [hdst] at hκ
              have hrel := h.put hn (hd d hdst) (x := .tup (.pair v .bool) .ro (Option.getD (findM (S.eqB (.agg (.arr n (.int kk)))) cx l) (S.zero v), Option.isSome (findM (S.eqB (.agg (.arr n (.int kk)))) cx l))) (v := .tuple #[(res.map (·.2)).getD z0, .bool res.isSome])
                ⟨#[(res.map (·.2)).getD z0, .bool res.isSome], rfl, ⟨vc, p1, p2⟩, ⟨[.bool res.isSome], rfl, Cx.R_bool.2 (by rw [hsome])⟩⟩
              exact ⟨_, own, _, hex, by rw [hdst]; exact hrel, hκ⟩
          · exact rd_put hn h hd hex ⟨vc, p1, p2⟩ hκ
        · cases hκ
      · cases hκ
    · cases hκ
  · cases hκ
theorem nav_cells_keep {w w' : World} (hw : ∀ b off n c, cellsAt w b off n = some c → cellsAt w' b off n = some c) : ∀ (t : Ty) (q : Path) (l : Spot) (cs : List Value) (r : Spot × List Value), S.nav w t l cs q = some r → S.nav w' t l cs q = some r := by
  intro t
  induction t with
  | slice e t ih =>
    intro q l cs r hn
    cases q with
    | nil => exact hn
    | cons s q => cases s with
      | idx i =>
        simp only [Cx.nav] at hn ⊢
        split at hn
        · rename_i b off _ _
          cases hc : cellsAt w b (off + i * S.size t) (S.size t) with
          | none => rw [hc] at hn; cases hn
          | some c =>
            rw [hc] at hn
            rw [hw _ _ _ _ hc]
            exact ih q _ _ _ hn
        · cases hn
      | _ => exact hn
  | pair a b iha ihb =>
    intro q l cs r hn
    cases q with
    | nil => exact hn
    | cons s q => cases s with
      | fst => exact iha q _ _ _ hn
      | snd => exact ihb q _ _ _ hn
      | _ => exact hn
  | agg t ih =>
    intro q l cs r hn
    cases q with
    | nil => exact hn
    | cons s q => cases s with
      | inn => exact ih q _ _ _ hn
      | _ => exact hn
  | arr n t ih =>
    intro q l cs r hn
    cases q with
    | nil => exact hn
    | cons s q => cases s with
      | el i =>
        simp only [Cx.nav] at hn ⊢
        split at hn
        · exact ih q _ _ _ hn
        · cases hn
      | _ => exact hn
  | _ =>
    intro q l cs r hn
    cases q with
    | nil => exact hn
    | cons s q => cases s <;> exact hn
theorem Rel.setMap (ok : S.Ok) (h : Rel g own st a w) {s b : Nat} {k v : Ty} {l l' : List (S.den k × S.den v)} {es : Array MapEntry} {clock : Nat} {o' : Obj} (hs : st.look s = .v (.map k v) mapM l) (hown : own b = some (.slot s, some []))
    (hblk : w.heap[b]? = some (.map es clock)) (hnew : S.OW { w with heap := w.heap.setIfInBounds b o' } own (fun _ => False) (.slot s) (.map k v) mapM [] [.map (some b)] l') (hval : a.tmps.getD s undef = .map (some b)) :
    Rel g own ((st.drop (.slot s)).setRoot (.slot s) ⟨.map k v, mapM, l'⟩) a { w with heap := w.heap.setIfInBounds b o' } := by
  have hsame : ∀ b', b' ≠ b → (w.heap.setIfInBounds b o')[b']? = w.heap[b']? := (MapKept.heap_set hblk).2
  have hfr := h.fresh b (by rw [hown]; simp)
  have hZb : ¬ g.Z own w b := fun hz => by have := hz.2.2; rw [hown] at this; cases this
  have hsz : ({ w with heap := w.heap.setIfInBounds b o' } : World).heap.size = w.heap.size := by simp
  have hZ : ∀ b', g.Z own w b' → g.Z own { w with heap := w.heap.setIfInBounds b o' } b' := fun b' hb => ⟨hb.1, by rw [hsz]; exact hb.2.1, hb.2.2⟩
  have hZw : ∀ b', g.Z own w b' → ({ w with heap := w.heap.setIfInBounds b o' } : World).heap[b']? = w.heap[b']? := fun b' hb => hsame b' (fun e => hZb (e ▸ hb))
  have hcell : ∀ b' off n c, cellsAt w b' off n = some c → cellsAt { w with heap := w.heap.setIfInBounds b o' } b' off n = some c := fun b' off n c hc => by
    have hne : b' ≠ b := fun e => by
      subst e
      simp only [cellsAt, hblk] at hc
      cases hc
    rw [cellsAt_same (hsame b' hne)]; exact hc
  have hOW : ∀ {r : Root} {t : Ty} {m : Mode} {p : Path} {cs : List Value} {x : S.den t}, r ≠ .slot s → S.OW w own (g.Z own w) r t m p cs x → S.OW { w with heap := w.heap.setIfInBounds b o' } own (g.Z own { w with heap := w.heap.setIfInBounds b o' }) r t m p cs x := fun hr hO =>
    OW_frame hZ hZw _ _ _ _ _ _ (fun b' q hb' => ⟨hb', hsame b' (fun e => by subst e; rw [hown] at hb'; exact hr (Prod.mk.inj (Option.some.inj hb')).1.symm)⟩) hO
  have hroot : ∀ r, r ≠ .slot s → ((st.drop (.slot s)).setRoot (.slot s) ⟨.map k v, mapM, l'⟩).root r = st.root r := fun r hr => by
    cases r with
    | slot i =>
      have hi : i ≠ s := fun e => hr (by rw [e])
      simp only [St.root, look_setSlot, if_neg hi]
      have := root_killBy st (AVal.rooted (.slot s)) (fun _ _ _ => rfl) rfl (.slot i)
      simpa [St.root, St.drop] using this
    | mem k' =>
      simp only [St.root, St.setRoot]
      split <;> rfl
    | lim => rfl
  have hRoot : ∀ r, r ≠ .slot s → ∀ t l cs, RootAt own a w r t l cs → RootAt own a { w with heap := w.heap.setIfInBounds b o' } r t l cs := fun r hr t l cs hR => by
    cases r with
    | slot i => exact hR
    | lim => exact hR
    | mem k' =>
      obtain ⟨b', e, cl, f1, f2, f3, f4⟩ := hR
      exact ⟨b', e, cl, f1, f2, by rw [hsame b' (fun e => by subst e; rw [hown] at f2; cases f2)]; exact f3, f4⟩
  have hplace : ∀ {r p l cs c}, r ≠ .slot s → Place st own a w r p l cs c → Place ((st.drop (.slot s)).setRoot (.slot s) ⟨.map k v, mapM, l'⟩) own a { w with heap := w.heap.setIfInBounds b o' } r p l cs c := fun hr hp => by
    obtain ⟨t, m, x, l0, cs0, h1, h2, h3, h4, h5, h6⟩ := hp
    exact ⟨t, m, x, l0, cs0, (hroot _ hr).trans h1, h2, hRoot _ hr _ _ _ h3, h4, nav_cells_keep hcell _ _ _ _ _ h5, h6⟩
  refine ⟨h.os, h.tape, h.output, by rw [hsz]; exact h.size, fun b' hb hio => ?_, fun b' hb => ?_, fun i => ?_, fun k' c hk => ?_, h.defs, h.pins⟩
  · rw [hsame b' (fun e => by subst e; exact hfr.1.elim (fun hf => by omega) (fun hf => hio hf))]
    exact h.block b' hb hio
  · have := h.fresh b' hb
    exact ⟨this.1, by rw [hsz]; exact this.2⟩
  · rw [look_setSlot]
    by_cases hi : i = s
    · subst hi
      rw [if_pos rfl]
      refine ⟨[.map (some b)], by rw [hval]; rfl, OW_frame (fun _ h => h.elim) (fun _ h => h.elim) _ _ _ _ _ _ (fun b' q hb' => ⟨hb', rfl⟩) hnew⟩
    · rw [if_neg hi, St.drop, look_killBy _ _ _ rfl]
      have hv := h.vals i
      cases hr : (st.look i).rooted (.slot s) with
      | true => trivial
      | false =>
        simp only
        generalize st.look i = A at *
        cases A with
        | dead => trivial
        | und => exact hv
        | v t m y =>
          obtain ⟨cs', e1, e2⟩ := hv
          exact ⟨cs', e1, hOW (by simpa using hi) e2⟩
        | tup t m y => obtain ⟨vs, e1, e2⟩ := hv; exact ⟨vs, e1, TupR_frame hZ hZw _ _ _ e2⟩
        | rp t y =>
          obtain ⟨b', off', cs', e1, e2, e3, e4⟩ := hv
          exact ⟨b', off', cs', e1, hZ b' e2, hcell _ _ _ _ e3, e4.frame hZ hZw⟩
        | ref r p =>
          obtain ⟨l1, cs', c', e1, e2⟩ := hv
          exact ⟨l1, cs', c', hplace (fun e => by subst e; simp [AVal.rooted] at hr) e1, e2⟩
        | addr r p =>
          obtain ⟨b', off', cs', c', e1, e2⟩ := hv
          exact ⟨b', off', cs', c', hplace (fun e => by subst e; simp [AVal.rooted] at hr) e1, e2⟩
        | fn g' cs' =>
          obtain ⟨vs, f1, f2⟩ := hv
          refine ⟨vs, f1, f2.mono fun c hcm v hc => ?_⟩
          cases c with
          | d t' y =>
            obtain ⟨b', off', cs', e1, e2, e3, e4⟩ := hc
            exact ⟨b', off', cs', e1, hZ b' e2, hcell _ _ _ _ e3, e4.frame hZ hZw⟩
          | m k =>
            obtain ⟨b', off', cs', c', e1, e2⟩ := hc
            exact ⟨b', off', cs', c', hplace (by simp) e1, e2⟩
  · have hm : ((st.drop (.slot s)).setRoot (.slot s) ⟨.map k v, mapM, l'⟩).mems = st.mems := by
      simp only [St.setRoot]; split <;> rfl
    rw [hm] at hk
    obtain ⟨b', e, cells, g1, g2, g3, g4⟩ := h.mems k' c hk
    exact ⟨b', e, cells, g1, by rw [hsame b' (fun e => by subst e; rw [hown] at g1; cases g1)]; exact g2, hOW (by simp) g3, g4⟩
theorem sameBits_int {n : Nat} {k : IntKind} {z : Int} : Instr.sameBits n (.int k z) (.int k z) = true := by cases n <;> simp [Instr.sameBits]
theorem key_same {n : Nat} {kk : IntKind} {cs ds : List Value} {w w' : World} {Z Z' : Nat → Prop} {x : List Int} (h1 : S.R w Z (.arr n (.int kk)) cs x) (h2 : S.R w' Z' (.arr n (.int kk)) ds x) : cs = ds := by
  obtain ⟨a1, a2, a3⟩ := Cx.R_arr.1 h1
  obtain ⟨b1, b2, b3⟩ := Cx.R_arr.1 h2
  have hs : S.size (.int kk) = 1 := rfl
  rw [hs] at a2 a3 b2 b3
  apply List.ext_getElem (by omega)
  intro i hi hj
  have hx : i < x.length := by have : List.length x = n := a1; omega
  have e1 := Cx.R_int.1 (a3 i (x.getD i 0) (getD_nth (l := x) 0 hx))
  have e2 := Cx.R_int.1 (b3 i (x.getD i 0) (getD_nth (l := x) 0 hx))
  rw [Nat.mul_one] at e1 e2
  have g1 : (cs.drop i).take 1 = [cs[i]] := by rw [List.drop_eq_getElem_cons hi]; rfl
  have g2 : (ds.drop i).take 1 = [ds[i]] := by rw [List.drop_eq_getElem_cons hj]; rfl
  rw [g1] at e1
  rw [g2] at e2
  exact (List.cons.inj e1).1.trans (List.cons.inj e2).1.symm
theorem sameBits_self {n : Nat} {kk : IntKind} {cs : List Value} {w : World} {Z : Nat → Prop} {x : List Int} (h1 : S.R w Z (.arr n (.int kk)) cs x) (d : Nat) : Instr.sameBits (d + 1) (.agg cs.toArray) (.agg cs.toArray) = true := by
  obtain ⟨a1, a2, a3⟩ := Cx.R_arr.1 h1
  have hs : S.size (.int kk) = 1 := rfl
  rw [hs] at a2 a3
  have hall : ∀ v ∈ cs, ∃ z, v = .int kk z := fun v hv => by
    obtain ⟨i, hi, rfl⟩ := List.getElem_of_mem hv
    have hx : i < x.length := by have : List.length x = n := a1; omega
    have e1 := Cx.R_int.1 (a3 i (x.getD i 0) (getD_nth (l := x) 0 hx))
    rw [Nat.mul_one, List.drop_eq_getElem_cons hi] at e1
    exact ⟨_, (List.cons.inj e1).1⟩
  have : ∀ l : List Value, (∀ v ∈ l, ∃ z, v = .int kk z) → (l.zip l).all (fun p => Instr.sameBits d p.1 p.2) = true := by
    intro l
    induction l with
    | nil => intro _; rfl
    | cons v l ih =>
      intro hl
      obtain ⟨z, rfl⟩ := hl v (List.mem_cons_self ..)
      rw [List.zip_cons_cons, List.all_cons, sameBits_int, ih (fun v hv => hl v (List.mem_cons_of_mem _ hv))]; rfl
  simp [Instr.sameBits, this cs hall]
theorem ents_push {k v : Ty} {es : List MapEntry} {l : List (S.den k × S.den v)} (hE : S.Ents w k v es l) {e : MapEntry} {y : S.den k} {z : S.den v} (hk : ∃ kc, VS k e.key kc ∧ S.R w (fun _ => False) k kc y) (hv : ∃ vc, VS v e.val vc ∧ S.R w (fun _ => False) v vc z) :
    S.Ents w k v (es ++ [e]) (l ++ [(y, z)]) := by
  refine ⟨by simp [hE.1], fun j e' x' h1 h2 => ?_⟩
  have hl := hE.1
  by_cases hj : j < es.length
  · rw [List.getElem?_append_left hj] at h1
    unfold nth at h2
    rw [List.getElem?_append_left (by omega)] at h2
    exact hE.2 j e' x' h1 h2
  · have hjl : j = es.length := by
      have := (List.getElem?_eq_some_iff.1 h1).1
      simp at this; omega
    subst hjl
    unfold nth at h2
    rw [List.getElem?_append_right (Nat.le_refl _)] at h1
    rw [hl, List.getElem?_append_right (Nat.le_refl _)] at h2
    simp at h1 h2
    subst h1
    subst h2
    exact ⟨hk, hv⟩
theorem ents_mod {k v : Ty} {es es' : List MapEntry} {l : List (S.den k × S.den v)} (hE : S.Ents w k v es l) {j : Nat} (hj : j < l.length) {e : MapEntry} {y : S.den k} {z : S.den v} (hlen : es'.length = es.length) (hes : ∀ i, es'[i]? = if j = i then some e else es[i]?)
    (hk : ∃ kc, VS k e.key kc ∧ S.R w (fun _ => False) k kc y) (hv : ∃ vc, VS v e.val vc ∧ S.R w (fun _ => False) v vc z) : S.Ents w k v es' (l.set j (y, z)) := by
  refine ⟨by rw [hlen, List.length_set]; exact hE.1, fun i e' x' h1 h2 => ?_⟩
  rw [hes] at h1
  by_cases hi : j = i
  · subst hi
    rw [if_pos rfl] at h1
    rw [nth_set_self hj] at h2
    cases h1
    cases h2
    exact ⟨hk, hv⟩
  · rw [if_neg hi] at h1
    rw [nth_set_ne (Ne.symm hi)] at h2
    exact hE.2 i e' x' h1 h2
theorem eqB_key {n : Nat} {kk : IntKind} {x y : S.den (.agg (.arr n (.int kk)))} (h : S.eqB (.agg (.arr n (.int kk))) x y = true) : x = y := by
  have h : (fun (a b : List Int) => decide (a = b)) x y = true := h
  exact of_decide_eq_true (p := (show List Int from x) = (show List Int from y)) h
theorem do_mapUpdate {o : Oper} {t : TypeId} {x i z : Operand} {hn : Hint} {κ : ST S → Option α} {r : α} (ok : S.Ok) (T : TysOk g.P g.E) (h : Rel g own st a w)
    (ho : o.op = .mapUpdate t x i z) (hκ : opK g.E hn o st κ = some r) : Do g false o a w κ r := by
  simp only [opK, ho] at hκ
  split at hκ
  · rename_i rt p hdst ex
    split at hκ
    · rename_i s
      split at hκ
      · rename_i k v m l hs
        split at hκ
        · rename_i m1 m2 c d hb hc hd
          simp only [Bool.and_eq_true] at hb
          obtain ⟨⟨ht, hk⟩, hsc⟩ := hb
          split at hκ
          · rename_i y y2 hy hy2
            have e2 : st.at (.slot s) [] = some ⟨.map k v, .pr m1 m2, l⟩ := by
              simp only [St.at, St.root, hs]; rfl
            obtain ⟨b, es, clock, rfl, rfl, v1, hown, hlt, hblk, hE⟩ := map_at ok h ex e2
            obtain ⟨kt, et, hu, hkt, het⟩ := (T _ _ (Env.is_lookup ht)).und
            obtain ⟨n, e, kk, rfl, huk, he⟩ := key_parts T hk hkt
            obtain ⟨cs, hVS, hR⟩ := val_ok ok g.E h hc
            obtain ⟨ds, hVSd, hRd⟩ := val_ok ok g.E h hd
            obtain ⟨hty, rfl⟩ := cast_some hy
            obtain ⟨htd, rfl⟩ := cast_some hy2
            obtain ⟨ct, cm, cx⟩ := c
            obtain ⟨dt, dm, dx⟩ := d
            simp only at hty hVS hR htd hVSd hRd
            subst hty
            subst htd
            have v2 : a.eval i = .agg cs.toArray := hVS
            have hkey : S.R w (fun _ => False) (.agg (.arr n (.int kk))) cs cx := key_R hk hR
            have hvl : S.R w (fun _ => False) dt ds dx := scalar_R' _ _ _ hsc hRd
            obtain ⟨res, r1, r2⟩ := run_find (P := g.P) (E := g.E) ok T (v := dt) hk hkt cx cs hkey es.toList l 0 hE
            have hchk : (Instr.checkKey false 10000 kt (.agg cs.toArray)).run g.P w = .ok () w := run_checkKey_arr (S := S) T huk he false 9998 (Cx.R_agg.1 hkey) w
            have hwide : (match g.P.underlying kt with | some (.array _ _) | some (.struct _) => true | _ => false) = true := by rw [huk]
            have hf := (run_findKey_eq w hwide (.agg cs.toArray) es.toList).trans (r1 w)
            have hvals := h.vals s
            rw [hs] at hvals
            have hval : a.tmps.getD s undef = .map (some b) := by
              obtain ⟨c0, q1, b0, es0, cl0, q2, q3, q4, q5⟩ := hvals
              have q1 : c0 = [a.tmps.getD s undef] := q1
              rw [q1] at q2
              rw [(List.cons.inj q2).1]
              have hav := av_ok g.E h x t 0
              rw [ex] at hav
              obtain ⟨l0, c1, cc, hp, hVS0⟩ := hav
              have := at_place hp e2
              subst this
              obtain ⟨t1, m1, x1, l1, cs1, p1, p2, p3, p4, p5, p6⟩ := hp
              rw [nav_nil] at p5
              have e5 := congrArg Prod.snd (Option.some.inj p5)
              have p1' : st.root (.slot s) = some ⟨.map (.agg (.arr n (.int kk))) dt, mapM, l⟩ := by simp only [St.root, hs]
              rw [p1'] at p1
              cases p1
              have p3 : cs1 = [a.tmps.getD s undef] := p3.2
              have hVS0 : c1 = [a.eval x] := hVS0
              have e5 : cs1 = c1 := e5
              rw [← e5, p3, v1] at hVS0
              rw [← (List.cons.inj q2).1, (List.cons.inj hVS0).1]
            have finish : ∀ (o' : Obj) (es' : Array MapEntry) (clock' : Nat), o' = .map es' clock' → S.Ents w (.agg (.arr n (.int kk))) dt es'.toList (putM (S.eqB (.agg (.arr n (.int kk)))) cx dx l) →
                (Instr.mapUpdate t (.map (some b)) (.agg cs.toArray) (a.eval z)).run g.P w = .ok () { w with heap := w.heap.setIfInBounds b o' } → Do g false o a w κ r := by
              intro o' es' clock' ho' hE' hrun
              have hrel := h.setMap ok (o' := o') (l' := putM (S.eqB (.agg (.arr n (.int kk)))) cx dx l) hs hown hblk ⟨b, es', clock', rfl, hown, by rw [← ho']; exact (MapKept.heap_set hblk).1, hE'.1, fun j e' x' q1 q2 => by
                obtain ⟨⟨kc, p1, p2⟩, vc, p3, p4⟩ := hE'.2 j e' x' q1 q2
                exact ⟨⟨kc, p1, p2.frame (fun _ h => h) (fun _ h => h.elim)⟩, vc, p3, p4.frame (fun _ h => h) (fun _ h => h.elim)⟩⟩ hval
              intro Q
              unfold Oper.wp
              have hx : (execOp a.eval o).run g.P w = .ok .skip { w with heap := w.heap.setIfInBounds b o' } := by
                simp only [execOp, ho, v1, v2, Sem.run_bind, hrun, Result.andThen_ok]
                rfl
              rw [hx]
              exact ⟨own, _, by rw [hdst]; exact hrel, hκ, by rw [hdst]; rfl, fun h => by cases h⟩
            rcases r2 with ⟨q1, q2, q3⟩ | ⟨j, e', x', q1, q2, q3, q4, q5, q6⟩
            · subst q1
              refine finish (.map (es.push { key := .agg cs.toArray, val := a.eval z, born := clock }) (clock + 1)) _ _ rfl ?_ ?_
              · rw [q3, Array.toList_push]
                exact ents_push hE ⟨cs, rfl, hkey⟩ ⟨ds, hVSd, hvl⟩
              · simp only [Instr.mapUpdate, Sem.run_bind, run_underlying hu, Result.andThen_ok, MapKept.run_getObj_map hblk, hchk, hf, MapKept.run_setObj_map _ hblk]
            · subst q3
              have hkeq : e'.key = .agg cs.toArray := by
                obtain ⟨⟨kc, p1, p2⟩, _⟩ := hE.2 j e' x' q1 q2
                have hxx : cx = x'.1 := eqB_key q4
                rw [← hxx] at p2
                have := key_same (Cx.R_agg.1 hkey) (Cx.R_agg.1 p2)
                subst this
                exact p1
              have hsb : Instr.sameBits 10000 (.agg cs.toArray) (.agg cs.toArray) = true := sameBits_self (Cx.R_agg.1 hkey) 9999
              refine finish (.map (es.modify j fun e => { e with key := .agg cs.toArray, val := a.eval z }) clock) _ _ rfl ?_ ?_
              · rw [q6]
                refine ents_mod (e := { e' with key := .agg cs.toArray, val := a.eval z }) hE (nth_lt q2) (by simp) (fun i => ?_) ⟨cs, rfl, hkey⟩ ⟨ds, hVSd, hvl⟩
                rw [Array.getElem?_toList, Array.getElem?_modify]
                by_cases hj : j = i
                · subst hj
                  have q1' : es[j]? = some e' := by simpa using q1
                  rw [if_pos rfl, if_pos rfl, q1']; rfl
                · rw [if_neg hj, if_neg hj]; simp
              · have q1' : es[j]? = some e' := by simpa using q1
                have hstay : (Instr.keyThatStays (.agg cs.toArray) (.agg cs.toArray)).run g.P w = .ok (.agg cs.toArray) w := by
                  unfold Instr.keyThatStays
                  rw [if_pos hsb]; rfl
                simp only [Instr.mapUpdate, Sem.run_bind, run_underlying hu, Result.andThen_ok, MapKept.run_getObj_map hblk, hchk, hf, Nat.zero_add, q1', Option.map_some, Option.getD_some, hkeq, hstay, MapKept.run_setObj_map _ hblk]
          · cases hκ
        · cases hκ
      · cases hκ
    · cases hκ
  · cases hκ
end
end Go.Proofs.Ytdnkjfmneppkoaa.Vm
namespace Go.Proofs.Ytdnkjfmneppkoaa.Vm
open Go Go.RowKit
set_option linter.unusedVariables false
section
variable {S : Cx} {α : Type} {g : Gl S} {own : Nat → Option Own} {st : ST S} {a : Act} {w : World}
def tile (z : List Value) (n : Nat) : Array Value := (Array.range n).map fun j => z.toArray[j % z.toArray.size]!
theorem tile_size (z : List Value) (n : Nat) : (tile z n).size = n := by simp [tile]
theorem tile_piece (z : List Value) (N i : Nat) (hi : i < N) (hz : 0 < z.length) : ((tile z (N * z.length)).toList.drop (i * z.length)).take z.length = z := by
  apply List.ext_getElem?
  intro j
  have hb : i * z.length + z.length ≤ N * z.length := by
    rw [← Nat.succ_mul]; exact Nat.mul_le_mul_right _ hi
  rw [List.getElem?_take]
  by_cases hj : j < z.length
  · rw [if_pos hj, List.getElem?_drop]
    have e : (i * z.length + j) % z.length = j := by rw [Nat.mul_comm, Nat.mul_add_mod, Nat.mod_eq_of_lt hj]
    have hlt : i * z.length + j < N * z.length := by omega
    simp [tile, hlt, e, hj]
  · rw [if_neg hj, List.getElem?_eq_none (by omega)]
theorem do_makeSlice {o : Oper} {e : Nat} {l c : Operand} {hn : Hint} {κ : ST S → Option α} {r : α} (ok : S.Ok) (T : TysOk g.P g.E) (h : Rel g own st a w) (hd : ∀ d, o.dst = some d → d < a.tmps.size)
    (ho : o.op = .makeSlice e l c) (hκ : opK g.E hn o st κ = some r) : Do g true o a w κ r := by
  simp only [opK, ho] at hκ
  split at hκ
  · rename_i k1 n k2 k e1 e2
    split at hκ
    · rename_i ee t e3
      split at hκ
      · rename_i hm
        obtain ⟨hb, hk2⟩ := must_some hκ
        clear hκ
        obtain ⟨hnk, h0, h24⟩ := of_decide_eq_true hb
        subst hnk
        have v1 : a.eval l = .int k1 n := int_ok ok g.E h e1
        have v2 : a.eval c = .int k2 n := int_ok ok g.E h e2
        have tf := T _ _ e3
        obtain ⟨hu, he, hpos⟩ := tf.und
        obtain ⟨hm, hnm⟩ := Bool.or_eq_false_iff.1 hm
        have tfe := T _ _ he
        rw [Cx.un_of hnm] at tfe
        obtain ⟨ie, ze, hie, hie2, hze, hVz, hbytes⟩ := tfe.info
        obtain ⟨N, rfl⟩ : ∃ N : Nat, n = N := ⟨n.toNat, by omega⟩
        have hR0 : S.R w (fun _ => True) t (zc t) (S.zero t) := R_zc t (tfe.named hm)
        have hzl : (zc t).length = S.size t := hR0.len ok
        have hzc : ze.cells = (zc t).toArray := VS_list hVz hR0.one
        have hz0 : 0 < (zc t).length := by rw [hzl]; exact hpos
        have hzv : (zeroValue ee).run g.P w = .ok ze w := by simp [zeroValue, typeInfo, hie, hze]
        obtain ⟨own2, hlab, hrel, hZ2, hsome⟩ := h.newRow (.cells (tile (zc t) (N * (zc t).length)) ee) (some [])
        have hbel : Below w.heap.size w (w.alloc (.cells (tile (zc t) (N * (zc t).length)) ee)) := (Below.refl _ w).alloc (Nat.le_refl _) _
        have hwr : IntKind.i64.wrap (N : Int) = (N : Int) := by simp [IntKind.wrap, IntKind.signed, IntKind.bits]; omega
        have hbig : ¬ ((ie.bytes : Int) * (N : Int) > 2 ^ 48) := by
          have : ie.bytes * N ≤ 4096 * 16777216 := Nat.mul_le_mul hbytes (by omega)
          have h2 : ((ie.bytes * N : Nat) : Int) ≤ 68719476736 := by omega
          rw [← Int.natCast_mul]; omega
        have hO : S.OW (w.alloc (.cells (tile (zc t) (N * (zc t).length)) ee)) own2 (g.Z own2 (w.alloc (.cells (tile (zc t) (N * (zc t).length)) ee))) .lim (.slice ee t) (.own (Mode.fitTo t (elemMode hn o.dst))) [] [.slice (some ⟨w.heap.size, 0, none⟩) N N] (List.replicate N (S.zero t)) := by
          refine .inr ⟨w.heap.size, N, tile (zc t) (N * (zc t).length), ?_, hlab, alloc_at, ?_, ?_, ?_, fun i u hu => ?_⟩
          · show [Value.slice _ N N] = [Value.slice _ (List.length (List.replicate N (S.zero t))) N]
            rw [List.length_replicate]
          · exact Nat.le_of_eq List.length_replicate
          · exact Nat.le_trans (show N ≤ 16777216 by omega) (by decide)
          · rw [tile_size, hzl]
          · have hu : (List.replicate N (S.zero t))[i]? = some u := hu
            obtain ⟨hi, e⟩ := List.getElem?_eq_some_iff.1 hu
            rw [List.length_replicate] at hi
            rw [List.getElem_replicate] at e
            subst e
            rw [← hzl, tile_piece _ _ _ hi hz0]
            exact OW_zc ok t _ _ (tfe.named hm)
        have hrun : (execOp a.eval o).run g.P w = .ok (.value (.slice (some ⟨w.heap.size, 0, none⟩) N N)) (w.alloc (.cells (tile (zc t) (N * (zc t).length)) ee)) := by
          simp only [execOp, ho]
          refine do_alloc.run_v' ?_
          rw [v1, v2]
          have hti : (typeInfo ee).run g.P w = .ok ie w := by simp [typeInfo, hie]
          have hn0 : decide ((N : Int) < 0) = false := decide_eq_false (by omega)
          have hnb : decide ((ie.bytes : Int) * (N : Int) > 2 ^ 48) = false := decide_eq_false hbig
          have hnn : decide ((N : Int) > (N : Int)) = false := decide_eq_false (by omega)
          simp only [Instr.makeSlice, Go.asInt, Go.asIntOf, pure_bind, Sem.run_bind, run_underlying hu, Result.andThen_ok, hti, hwr, hn0, hnb, hnn, Bool.or_self, Bool.false_eq_true, if_false, run_askRoom, tfe.size w, Int.toNat_natCast]
          by_cases hz : N * S.size t = 0
          · have e0 : tile (zc t) (N * (zc t).length) = (#[] : Array Value) := by
              rw [hzl, hz]; simp [tile]
            rw [if_pos hz, hz, e0]
            simp [newRow, Result.andThen_ok]
            have e1 : (Array.range 0 : Array Nat) = #[] := by simp
            rw [e1]; simp
          · rw [if_neg hz]
            simp only [Sem.run_bind, hzv, Result.andThen_ok, hzc, newRow, run_newObj_alloc, hzl]
            rfl
        have hput : (List.replicate (N : Int).toNat (S.zero t)) = List.replicate N (S.zero t) := rfl
        cases hdst : o.dst with
        | none =>
          rw [hdst] at hk2
          exact do_run hrun (by rw [hdst]; exact hrel) hk2 (fun _ => hbel)
        | some d =>
          rw [hdst] at hk2 hO
          obtain ⟨own3, hrel3⟩ := put_lim hrel hn (hd d hdst) (c := ⟨.slice ee t, .own (Mode.fitTo t (elemMode hn (some d))), List.replicate N (S.zero t)⟩) (v := .slice (some ⟨w.heap.size, 0, none⟩) N N) rfl hO
          exact do_run hrun (by rw [hdst]; exact hrel3) hk2 (fun _ => hbel)
      · cases hκ
    · cases hκ
  · cases hκ
end
end Go.Proofs.Ytdnkjfmneppkoaa.Vm
namespace Go.Proofs.Ytdnkjfmneppkoaa.Vm
open Go Go.RowKit
set_option linter.unusedVariables false
section
variable {S : Cx} {α : Type}
def IoR (S : Cx) (w : World) (Z : Nat → Prop) (own : Nat → Option Own) (i : Nat) (v : Value) (t : Ty) (m : Mode) (x : S.den t) : Prop :=
  ∃ b e cells, v = .pointer (some ⟨b, 0, none⟩) ∧ own b = some (.mem i, none) ∧ w.heap[b]? = some (.cells cells e (0, 0)) ∧ S.OW w own Z (.mem i) t m [] cells.toList x ∧ ∀ b', own b' = some (.mem i, none) → b' = b
def ArgR (S : Cx) (w : World) (Z : Nat → Prop) (own : Nat → Option Own) (i : Nat) : (p : PK) → Value → S.den p.ty → Prop
  | .val t, v, x => ∃ cs, VS t v cs ∧ S.R w Z t cs x
  | .io t m, v, x => IoR S w Z own i v t m x
  | .fn f n, v, _ => ∃ cs : List Value, cs.length = n ∧ v = .func (.func f) #[] cs.toArray
  | .own t m, v, x => ∃ cs, VS t v cs ∧ S.OW w own Z (.mem i) t m [] cs x
def capsOf : Value → List Value
  | .func _ _ cs => cs.toList
  | _ => []
def flatV : List PK → List Value → List Value → List Value
  | [], pend, vs => pend ++ vs
  | _ :: ps, c :: pend, vs => c :: flatV ps pend vs
  | .fn _ _ :: ps, [], v :: vs => v :: flatV ps (capsOf v) vs
  | .val _ :: ps, [], v :: vs => v :: flatV ps [] vs
  | .io _ _ :: ps, [], v :: vs => v :: flatV ps [] vs
  | .own _ _ :: ps, [], v :: vs => v :: flatV ps [] vs
  | _ :: _, [], [] => []
theorem flatV_none : ∀ (ps : List PK) (vs : List Value), ps.any PK.isFn = false → vs.length = ps.length → flatV ps [] vs = vs
  | [], [], _, _ => rfl
  | .val t :: ps, v :: vs, h, hl => by
    simp only [flatV, flatV_none ps vs (by simpa [PK.isFn] using h) (by simpa using hl)]
  | .io t m :: ps, v :: vs, h, hl => by
    simp only [flatV, flatV_none ps vs (by simpa [PK.isFn] using h) (by simpa using hl)]
  | .own t m :: ps, v :: vs, h, hl => by
    simp only [flatV, flatV_none ps vs (by simpa [PK.isFn] using h) (by simpa using hl)]
  | .fn _ _ :: ps, v :: vs, h, hl => by simp [PK.isFn] at h
  | [], _ :: _, _, hl => by simp at hl
  | _ :: _, [], _, hl => by simp at hl
theorem flatV_len : ∀ (ps : List PK) (pend vs : List Value), vs.length ≤ (flatV ps pend vs).length
  | [], pend, vs => by simp [flatV]
  | .val _ :: ps, c :: pend, vs => by have := flatV_len ps pend vs; simp [flatV]; omega
  | .io _ _ :: ps, c :: pend, vs => by have := flatV_len ps pend vs; simp [flatV]; omega
  | .own _ _ :: ps, c :: pend, vs => by have := flatV_len ps pend vs; simp [flatV]; omega
  | .fn _ _ :: ps, c :: pend, vs => by have := flatV_len ps pend vs; simp [flatV]; omega
  | .fn _ _ :: ps, [], v :: vs => by have := flatV_len ps (capsOf v) vs; simp [flatV]; omega
  | .val _ :: ps, [], v :: vs => by have := flatV_len ps [] vs; simp [flatV]; omega
  | .io _ _ :: ps, [], v :: vs => by have := flatV_len ps [] vs; simp [flatV]; omega
  | .own _ _ :: ps, [], v :: vs => by have := flatV_len ps [] vs; simp [flatV]; omega
  | .fn _ _ :: ps, [], [] => by simp
  | .val _ :: ps, [], [] => by simp
  | .io _ _ :: ps, [], [] => by simp
  | .own _ _ :: ps, [], [] => by simp
def ArgsR (S : Cx) (w : World) (Z : Nat → Prop) (own : Nat → Option Own) : Nat → (ps : List PK) → List Value → S.den (packTy (argT ps)) → Prop
  | _, [], [], _ => True
  | i, p :: ps, v :: vs, x => ArgR S w Z own i p v x.1 ∧ ArgsR S w Z own (i + 1) ps vs x.2
  | _, _, _, _ => False
def OutsR (S : Cx) (w : World) (Z : Nat → Prop) (own : Nat → Option Own) : List (Nat × Value) → (os : List (Ty × Mode)) → S.den (packTy (outT os)) → Prop
  | [], [], _ => True
  | k :: ks, o :: os, y => IoR S w Z own k.1 k.2 o.1 o.2 y.1 ∧ OutsR S w Z own ks os y.2
  | _, _, _ => False
def ioArgs : Nat → List PK → List Value → List (Nat × Value)
  | i, .val _ :: ps, _ :: vs => ioArgs (i + 1) ps vs
  | i, .io _ _ :: ps, v :: vs => (i, v) :: ioArgs (i + 1) ps vs
  | i, .fn _ _ :: ps, _ :: vs => ioArgs (i + 1) ps vs
  | i, .own _ _ :: ps, _ :: vs => ioArgs (i + 1) ps vs
  | _, _, _ => []
def Res1 (S : Cx) (w : World) (Z : Nat → Prop) (own : Nat → Option Own) : (rt : Ty) → (rm : Mode) → Value → S.den rt → Prop
  | .box t, .own m, v, x => ∃ b e cells, v = .pointer (some ⟨b, 0, none⟩) ∧ own b = some (.lim, none) ∧ w.heap[b]? = some (.cells cells e (0, 0)) ∧ S.OW w own Z .lim t m [] cells.toList x
  | rt, rm, v, x => ∃ cs, VS rt v cs ∧ S.OW w own Z .lim rt rm [] cs x
theorem Res1.of {w : World} {Z : Nat → Prop} {own : Nat → Option Own} {rt : Ty} {rm : Mode} {v : Value} {x : S.den rt} (h : ∃ cs, VS rt v cs ∧ S.OW w own Z .lim rt rm [] cs x) : Res1 S w Z own rt rm v x := by
  unfold Res1
  split
  · obtain ⟨cs, h1, h2⟩ := h
    exact h2.elim
  · exact h
theorem Res1.ro {w : World} {Z : Nat → Prop} {own : Nat → Option Own} {rt : Ty} {v : Value} {x : S.den rt} (h : Res1 S w Z own rt .ro v x) : ∃ cs, VS rt v cs ∧ S.OW w own Z .lim rt .ro [] cs x := by
  unfold Res1 at h
  split at h
  · rename_i e; cases e
  · exact h
theorem Res1.frame {w : World} {Z Z' : Nat → Prop} {own own' : Nat → Option Own} {rt : Ty} {rm : Mode} {v : Value} {x : S.den rt} (hZ : ∀ b, Z b → Z' b) (ho : ∀ b q, own b = some (.lim, q) → own' b = some (.lim, q))
    (h : Res1 S w Z own rt rm v x) : Res1 S w Z' own' rt rm v x := by
  have fr : ∀ {t : Ty} {m : Mode} {p : Path} {cs : List Value} {x : S.den t}, S.OW w own Z .lim t m p cs x → S.OW w own' Z' .lim t m p cs x := fun hO =>
    OW_frame hZ (fun _ _ => rfl) _ _ _ _ _ _ (fun b q hb => ⟨ho b _ hb, rfl⟩) hO
  unfold Res1 at h ⊢
  split at h
  · obtain ⟨b, e, cells, h1, h2, h3, h4⟩ := h
    exact ⟨b, e, cells, h1, ho b _ h2, h3, fr h4⟩
  · obtain ⟨cs, h1, h2⟩ := h
    exact ⟨cs, h1, fr h2⟩
def ResR (w : World) (Z : Nat → Prop) (own : Nat → Option Own) (F : FSpec S.toNm) (v : Value) (x : S.den F.rt) : Prop :=
  match F.nres with
  | 0 => True
  | 1 => Res1 S w Z own F.rt F.rm v x
  | _ => ∃ vs, v = .tuple vs ∧ TupR w Z F.rt x vs.toList
def Enters (P : Program) (f : FuncId) (args : Array Value) (w : World) (R : Value → World → Prop) : Prop :=
  match (callFunc f args).run P w with
  | .ok (.value v) w' => R v w'
  | .ok (.enter f' args') w' => Calls P f' args' w' (fun e w'' => ∃ v, e = .returned v ∧ R v w'')
  | _ => False
structure Left (own own' : Nat → Option Own) (w w' : World) : Prop where
  os : w'.os = w.os
  tape : w'.tape = w.tape
  output : w'.output = w.output
  size : w.heap.size ≤ w'.heap.size
  block : ∀ b, b < w.heap.size → own b = none → w'.heap[b]? = w.heap[b]?
  own : ∀ b, own' b ≠ none → b < w'.heap.size ∧ (w.heap.size ≤ b ∨ own b ≠ none)
def zoneOf (Z : Nat → Prop) (own own' : Nat → Option Own) (w w' : World) : Nat → Prop := fun b => (Z b ∨ w.heap.size ≤ b ∨ own b ≠ none) ∧ b < w'.heap.size ∧ own' b = none
def ValsR (S : Cx) (w : World) (Z : Nat → Prop) : (ps : List PK) → List Value → S.den (packTy (argT ps)) → Prop
  | [], [], _ => True
  | p :: ps, v :: vs, x => one p v x.1 ∧ ValsR S w Z ps vs x.2
  | _, _, _ => False
  where
  one : (p : PK) → Value → S.den p.ty → Prop
  | .val t, v, x => ∃ cs, VS t v cs ∧ S.R w Z t cs x
  | .io _ _, _, _ => True
  | .own _ _, _, _ => True
  | .fn f n, v, _ => ∃ cs : List Value, cs.length = n ∧ v = .func (.func f) #[] cs.toArray
def ORow (S : Cx) (w : World) (e : Nat) (u : Ty) (v : Value) (l : List (S.den u)) : Prop :=
  (v = .slice none 0 0 ∧ l = []) ∨ ∃ b c cells, v = .slice (some ⟨b, 0, none⟩) l.length c ∧ w.heap[b]? = some (.cells cells e (0, 0)) ∧ l.length ≤ c ∧ c ≤ maxLen ∧ cells.size = c * S.size u ∧
    ∀ i y, nth l i = some y → S.R w (fun _ => False) u ((cells.toList.drop (i * S.size u)).take (S.size u)) y
def rowOf : Value → Option Nat
  | .slice (some a) _ _ => some a.block
  | _ => none
def OsOk (P : Program) (O : OSpec S.toNm) (f : FuncId) : Prop :=
  ∀ (w : World) (Z : Nat → Prop) (v0 : Value) (vs v2 : List Value) (l : List (S.den O.u)) (y : S.den (packTy (argT O.ps))) (l2 l' : List (S.den O.u)),
    (∀ b, Z b → b < w.heap.size) → ORow S w O.e O.u v0 l → (∀ b, rowOf v0 = some b → ¬ Z b) → ValsR S w Z O.ps vs y →
    (match O.two with | true => ∃ u, v2 = [u] ∧ ORow S w O.e O.u u l2 ∧ ∀ b, rowOf u = some b → rowOf v0 ≠ some b | false => v2 = [] ∧ l2 = []) → O.f l y l2 = some l' →
    Enters P f (v0 :: (vs ++ v2)).toArray w fun v w' => w'.os = w.os ∧ w'.tape = w.tape ∧ w'.output = w.output ∧ w.heap.size ≤ w'.heap.size ∧ (∀ b, b < w.heap.size → rowOf v0 ≠ some b → w'.heap[b]? = w.heap[b]?) ∧
      ORow S w' O.e O.u v l' ∧ ∀ b, rowOf v = some b → rowOf v0 = some b ∨ w.heap.size ≤ b
def FnOk0 (P : Program) (F : FSpec S.toNm) (f : FuncId) : Prop :=
  ∀ (w : World) (Z : Nat → Prop) (own : Nat → Option Own) (vs : List Value) (x : S.den (packTy (argT F.ps))) (r : S.den (resTy F.rt (outT (outs F.ps)))),
    (∀ b, Z b → b < w.heap.size ∧ own b = none) → (∀ b, own b ≠ none → b < w.heap.size) → ArgsR S w Z own ioBase F.ps (flatV F.ps [] vs) x → GlobR S w Z → F.f x = some r →
    Enters P f vs.toArray w fun v w' => ∃ own', Left own own' w w' ∧ ResR w' (zoneOf Z own own' w w') own' F v r.1 ∧ OutsR S w' (zoneOf Z own own' w w') own' (ioArgs ioBase F.ps (flatV F.ps [] vs)) (outs F.ps) r.2
def FnOk (P : Program) (F : FSpec S.toNm) (f : FuncId) : Prop := match F.o with
  | none => FnOk0 P F f
  | some O => OsOk P O f
theorem FnOk.zero {P : Program} {F : FSpec S.toNm} {f : FuncId} (h : FnOk P F f) (ho : F.o = none) : FnOk0 P F f := by
  unfold FnOk at h; rw [ho] at h; exact h
theorem FnOk.of {P : Program} {F : FSpec S.toNm} {f : FuncId} (ho : F.o = none) (h : FnOk0 P F f) : FnOk P F f := by
  unfold FnOk; rw [ho]; exact h
theorem FnOk.own {P : Program} {F : FSpec S.toNm} {O : OSpec S.toNm} {f : FuncId} (h : FnOk P F f) (ho : F.o = some O) : OsOk P O f := by
  unfold FnOk at h; rw [ho] at h; exact h
variable {g : Gl S} {own : Nat → Option Own} {st : ST S} {a : Act} {w : World}
theorem ValsR.one_mono {w : World} {Z Z' : Nat → Prop} (hZ : ∀ b, Z b → Z' b) {p : PK} {v : Value} {x : S.den p.ty} (h : ValsR.one S w Z p v x) : ValsR.one S w Z' p v x := by
  cases p with
  | val t => obtain ⟨cs, h1, h2⟩ := h; exact ⟨cs, h1, h2.frame hZ (fun _ _ => rfl)⟩
  | io t m => trivial
  | own t m => trivial
  | fn f n => exact h
theorem ValsR.mono {w : World} {Z Z' : Nat → Prop} (hZ : ∀ b, Z b → Z' b) : ∀ (ps : List PK) (vs : List Value) (x : S.den (packTy (argT ps))), ValsR S w Z ps vs x → ValsR S w Z' ps vs x
  | [], [], _, _ => trivial
  | p :: ps, v :: vs, x, h => ⟨ValsR.one_mono hZ h.1, ValsR.mono hZ ps vs x.2 h.2⟩
  | [], _ :: _, _, h => h.elim
  | _ :: _, [], _, h => h.elim
def argZ (g : Gl S) (fz : Bool) (own : Nat → Option Own) (w : World) : Nat → Prop := match fz with | true => g.Z own w | false => g.A w
def evS (a : Act) : Src → Value
  | .op x _ => a.eval x
  | .cap s j => (capsOf (a.tmps.getD s undef)).getD j undef
theorem capAt_ok (h : Rel g own st a w) {s j f : Nat} {cs : List (Cap S.toNm)} {c : Cap S.toNm} (e1 : st.look s = .fn f cs) (e2 : cs[j]? = some c) : CapR g st own a w c (evS a (.cap s j)) := by
  have hv := h.vals s
  rw [e1] at hv
  obtain ⟨vs, h1, h2⟩ := hv
  obtain ⟨v, h3, h4⟩ := h2.get e2
  have : evS a (.cap s j) = v := by
    simp only [evS, h1, capsOf]
    simp [h3]
  rw [this]; exact h4
theorem TR_cap {c : Cap S.toNm} {v : Value} {i : Nat} (h : CapR g st own a w c v) : TR g st own a w i c.av v := by
  cases c <;> exact h
theorem avS_ok (E : Env S) (h : Rel g own st a w) (x : Src) (i : Nat) : TR g st own a w i (st.avS E x) (evS a x) := by
  cases x with
  | op x ty => exact av_ok E h x 0 i
  | cap s j =>
    simp only [St.avS]
    split
    · rename_i f cs e1
      split
      · rename_i c e2
        exact TR_cap (capAt_ok h e1 e2)
      · trivial
    · trivial
theorem capD_ok (ok : S.Ok) (h : Rel g own st a w) {c : Cap S.toNm} {v : Value} (hc : CapR g st own a w c v) {m : MV S.toNm} (hm : capD st c = some m) : S.R w (g.A w) m.t [v] m.x ∧ ∃ t, m.t = .box t := by
  cases c with
  | d t x =>
    cases hm
    obtain ⟨b, off, cs, e1, e2, e3, e4⟩ := hc
    subst e1
    exact ⟨Cx.R_box.2 ⟨b, off, cs, rfl, Z_A e2, e3, e4.frame (fun b hb => Z_A hb) (fun _ _ => rfl)⟩, t, rfl⟩
  | m k =>
    simp only [capD] at hm
    split at hm
    · rename_i t mm y hk
      split at hm
      · rename_i hl
        cases hm
        obtain ⟨b, off, cs', c', hp, e2⟩ := hc
        subst e2
        obtain ⟨t0, m0, x0, l0, cs0, h1, h2, h3, h4, h5, h6⟩ := hp
        obtain ⟨b0, e0, cl, f1, f2, f3, f4⟩ := h3
        obtain ⟨b1, e1, cells, g1, g2, g3, g4⟩ := h.mems k _ hk
        have := g4 b0 f2
        subst this
        rw [nav_nil] at h5
        have h5 := congrArg Prod.fst (Option.some.inj h5)
        rw [f1] at h5
        simp only [Option.some.injEq, Prod.mk.injEq] at h5
        obtain ⟨rfl, rfl⟩ := h5
        have hlen : cells.toList.length = S.size t := OW_len ok _ _ _ _ _ g3
        refine ⟨Cx.R_box.2 ⟨b0, 0, cells.toList, rfl, ?_, ?_, ?_⟩, t, rfl⟩
        · exact ⟨.inr (h.fresh b0 (by rw [g1]; simp)).1, (h.fresh b0 (by rw [g1]; simp)).2⟩
        · unfold cellsAt
          rw [g2]
          simp only
          have hsz : cells.toList.length = cells.size := Array.length_toList
          rw [if_pos (by omega), List.drop_zero, List.take_of_length_le (by omega)]
        · exact OW_R (fun b hb => Z_A hb) _ _ _ _ _ hl (fun b' q hb => ⟨.inr (h.fresh b' (by rw [hb]; simp)).1, (h.fresh b' (by rw [hb]; simp)).2⟩) g3
      · cases hm
    · cases hm
theorem capsD_ok (ok : S.Ok) (h : Rel g own st a w) : ∀ (cs : List (Cap S.toNm)) (vs : List Value) (m : MV S.toNm), CapsR g st own a w cs vs → capsD st cs = some m → S.R w (g.A w) m.t vs m.x
  | [], [], m, _, hm => by cases hm; exact Cx.R_unit.2 rfl
  | [], _ :: _, _, h, _ => h.elim
  | _ :: _, [], _, h, _ => h.elim
  | c :: cs, v :: vs, m, hc, hm => by
    simp only [capsD] at hm
    split at hm
    · rename_i x y e1 e2
      cases hm
      obtain ⟨k1, t, k2⟩ := capD_ok ok h hc.1 e1
      exact Cx.R_pair.2 ⟨[v], vs, rfl, by rw [k2]; rfl, k1, capsD_ok ok h cs vs y hc.2 e2⟩
    · cases hm
theorem peekP_ok (ok : S.Ok) (h : Rel g own st a w) {A : AV S} {v : Value} {i : Nat} {want : Ty} {c : MV S.toNm} (hA : TR g st own a w i A v) (hc : st.peekP A want = some c) :
    VS c.t v [v] ∧ S.R w (g.A w) c.t [v] c.x := by
  unfold St.peekP at hc
  split at hc
  · rename_i n
    split at hc
    · rename_i r p
      split at hc
      · rename_i k
        split at hc
        · split at hc
          · rename_i t m x hk
            split at hc
            · rename_i hl
              split at hc
              · rename_i y hy
                cases hc
                obtain ⟨ht, rfl⟩ := cast_some hy
                subst ht
                obtain ⟨b, off, cs', c', hp, rfl⟩ := hA
                obtain ⟨t0, m0, x0, l0, cs0, h1, h2, h3, h4, h5, h6⟩ := hp
                obtain ⟨b0, e0, cl, f1, f2, f3, f4⟩ := h3
                rw [nav_nil] at h5
                have e5 := congrArg Prod.fst (Option.some.inj h5)
                rw [f1] at e5
                cases e5
                obtain ⟨b1, e1, cells, g1, g2, g3, g4⟩ := h.mems k _ hk
                have hbb := g4 b f2
                subst hbb
                have hA : ∀ b' q, own b' = some q → g.A w b' := fun b' q hb => ⟨.inr (h.fresh b' (by rw [hb]; simp)).1, (h.fresh b' (by rw [hb]; simp)).2⟩
                have hR : S.R w (g.A w) (S.body n) cells.toList x := OW_R (fun b hb => Z_A hb) _ _ _ _ _ hl (fun b' q hb => hA b' _ hb) g3
                have hlen : cells.toList.length = S.size (S.body n) := OW_len ok _ _ _ _ _ g3
                refine ⟨rfl, Cx.R_ptr.2 (.inr ⟨b, _, cells.toList, rfl, rfl, hA b _ g1, ?_, by rw [ok.2.1]; exact hR, cells, _, g2⟩)⟩
                unfold cellsAt
                rw [g2]
                simp only
                have hsz : cells.toList.length = cells.size := Array.length_toList
                rw [ok.1, if_pos (by omega), List.drop_zero, List.take_of_length_le (by omega)]
              · cases hc
            · cases hc
          · cases hc
        · cases hc
      · cases hc
    · cases hc
  · cases hc
theorem frzIos_ok (ok : S.Ok) {E : Env S} : ∀ (ps : List PK) (xs : List Src) (own : Nat → Option Own) (st st' : ST S), Rel g own st a w → frzIos E ps xs st = some st' → ∃ own', Rel g own' st' a w ∧ Lasts own own'
  | [], xs, own, st, st', h, hp => by
    have : st = st' := by cases xs <;> (simp only [frzIos, Option.some.injEq] at hp; exact hp)
    subst this; exact ⟨own, h, .refl⟩
  | p :: ps, [], own, st, st', h, hp => by
    have : st = st' := by cases p <;> (simp only [frzIos, Option.some.injEq] at hp; exact hp)
    subst this; exact ⟨own, h, .refl⟩
  | .val _ :: ps, x :: xs, own, st, st', h, hp => frzIos_ok ok ps xs own st st' h hp
  | .fn _ _ :: ps, x :: xs, own, st, st', h, hp => frzIos_ok ok ps xs own st st' h hp
  | .own _ _ :: ps, x :: xs, own, st, st', h, hp => frzIos_ok ok ps xs own st st' h hp
  | .io t m :: ps, x :: xs, own, st, st', h, hp => by
    simp only [frzIos] at hp
    split at hp
    · split at hp
      · rename_i k ex
        split at hp
        · rename_i t' m' y hk
          split at hp
          · exact frzIos_ok ok ps xs own st st' h hp
          · split at hp
            · rename_i hl
              split at hp
              · rename_i st1 hs
                have hav := avS_ok E h x 0
                rw [ex] at hav
                obtain ⟨b, off, cs', c', hP, v1⟩ := hav
                have hc' : c' = ⟨t', m', y⟩ := by
                  obtain ⟨t0, m0, x0, l0, cs0, h1, h2, h3, h4, h5, h6⟩ := hP
                  have h1' : st.mems.lookup k = some ⟨t0, m0, x0⟩ := h1
                  rw [hk] at h1'
                  cases h1'
                  rw [getP_nil] at h6
                  exact (Option.some.inj h6).symm
                subst hc'
                obtain ⟨own1, k1, _, k3⟩ := place_frz ok h hP hl hs
                obtain ⟨own2, j1, j2⟩ := frzIos_ok ok ps xs own1 st1 st' k1 hp
                exact ⟨own2, j1, k3.trans j2⟩
              · cases hp
            · cases hp
        · cases hp
      · cases hp
    · exact frzIos_ok ok ps xs own st st' h hp
theorem valF_ok (ok : S.Ok) (E : Env S) (h : Rel g own st a w) {x : Operand} {ty : Nat} {c : MV S.toNm} (hc : st.valF E x ty = some c) :
    ∃ cs, VS c.t (a.eval x) cs ∧ S.R w (g.A w) c.t cs c.x := by
  unfold St.valF at hc
  split at hc
  · rename_i s
    split at hc
    · rename_i f cs e
      split at hc
      · rename_i m hm
        cases hc
        have hv := h.vals s
        rw [e] at hv
        obtain ⟨vs, h1, h2⟩ := hv
        exact ⟨[a.tmps.getD s undef], rfl, by rw [h1]; exact Cx.R_clo.2 ⟨vs, rfl, capsD_ok ok h cs vs m h2 hm⟩⟩
      · cases hc
    · rename_i r p e
      split at hc
      · have hv := h.vals s
        rw [e] at hv
        obtain ⟨k1, k2⟩ := peekP_ok ok h hv hc
        exact ⟨_, k1, k2⟩
      · cases hc
    · exact val_ok ok E h hc
  · exact val_ok ok E h hc
theorem packOne_ok (ok : S.Ok) {E : Env S} {fz : Bool} (h : Rel g own st a w) {p : PK} {x : Src} {y : S.den p.ty} {st' : ST S} (hp : packOne E fz st p x = some (y, st')) :
    ∃ own', Rel g own' st' a w ∧ Lasts own own' ∧ ValsR.one S w (argZ g fz own' w) p (evS a x) y := by
  cases p with
  | io t m => cases hp; exact ⟨own, h, .refl, trivial⟩
  | own t m => cases hp; exact ⟨own, h, .refl, trivial⟩
  | fn f n =>
    simp only [packOne] at hp
    split at hp
    · split at hp
      · rename_i s
        split at hp
        · rename_i f' cs e
          split at hp
          · rename_i hd
            cases hp
            obtain ⟨rfl, hn⟩ := of_decide_eq_true hd
            have hv := h.vals s
            rw [e] at hv
            obtain ⟨vs, h1, h2⟩ := hv
            exact ⟨own, h, .refl, vs, by rw [← h2.len, hn], h1⟩
          · cases hp
        · cases hp
      · cases hp
    · cases hp
  | val t =>
    simp only [packOne] at hp
    split at hp
    · rename_i x ty
      split at hp
      · split at hp
        · rename_i c st1 hc
          split at hp
          · rename_i y' hy
            cases hp
            obtain ⟨own1, cs, h1, hVS, hm, hR, hL⟩ := frz_ok ok E h hc
            obtain ⟨ht, rfl⟩ := cast_some hy
            obtain ⟨ct, cm, cx⟩ := c
            simp only at ht hVS hR
            subst ht
            exact ⟨own1, h1, hL, cs, hVS, hR⟩
          · cases hp
        · cases hp
      · split at hp
        · rename_i c hc
          split at hp
          · rename_i y' hy
            cases hp
            obtain ⟨cs, hVS, hR⟩ := valF_ok ok E h hc
            obtain ⟨ht, rfl⟩ := cast_some hy
            obtain ⟨ct, cm, cx⟩ := c
            simp only at ht hVS hR
            subst ht
            exact ⟨own, h, .refl, cs, hVS, hR⟩
          · cases hp
        · cases hp
    · rename_i s j
      split at hp
      · rename_i f cs e1
        split at hp
        · rename_i c e2
          have hcap := capAt_ok h e1 e2
          split at hp
          · rename_i t' y'
            split at hp
            · rename_i z hz
              cases hp
              obtain ⟨ht, rfl⟩ := cast_some hz
              subst ht
              obtain ⟨b, off, cs', g1, g2, g3, g4⟩ := hcap
              refine ⟨own, h, .refl, [evS a (.cap s j)], rfl, ?_⟩
              rw [g1]
              have hZ : ∀ b, g.Z own w b → argZ g fz own w b := fun b hb => by cases fz; exact Z_A hb; exact hb
              exact Cx.R_box.2 ⟨b, off, cs', rfl, hZ b g2, g3, g4.frame hZ (fun _ _ => rfl)⟩
            · cases hp
          · rename_i k
            split at hp
            · cases hp
            · split at hp
              · rename_i m hm
                split at hp
                · rename_i z hz
                  cases hp
                  obtain ⟨k1, t', k2⟩ := capD_ok ok h hcap hm
                  obtain ⟨ht, rfl⟩ := cast_some hz
                  obtain ⟨mt, mm, mx⟩ := m
                  simp only at ht k1 k2
                  subst ht
                  exact ⟨own, h, .refl, [evS a (.cap s j)], (by rw [k2]; rfl), k1⟩
                · cases hp
              · cases hp
        · cases hp
      · cases hp
theorem argZ_mono {fz : Bool} {own own' : Nat → Option Own} (h : Lasts own own') {b : Nat} (hb : argZ g fz own w b) : argZ g fz own' w b := by
  cases fz with
  | true => exact h.Z hb
  | false => exact hb
theorem packArgs_ok (ok : S.Ok) {E : Env S} {fz : Bool} : ∀ (ps : List PK) (xs : List Src) (own : Nat → Option Own) (st st' : ST S) (y : S.den (packTy (argT ps))), Rel g own st a w →
    packArgs E fz ps xs st = some (y, st') → ∃ own', Rel g own' st' a w ∧ Lasts own own' ∧ ValsR S w (argZ g fz own' w) ps (xs.map (evS a)) y
  | [], [], own, st, st', y, h, hp => by
    simp only [packArgs, Option.some.injEq] at hp
    obtain ⟨_, rfl⟩ := hp
    exact ⟨own, h, .refl, trivial⟩
  | p :: ps, x :: xs, own, st, st', y, h, hp => by
    simp only [packArgs] at hp
    split at hp
    · rename_i y1 st1 h1
      split at hp
      · rename_i y2 st2 h2
        simp only [Option.some.injEq] at hp
        obtain ⟨rfl, rfl⟩ := hp
        obtain ⟨own1, k1, k2, k3⟩ := packOne_ok ok h h1
        obtain ⟨own2, j1, j2, j3⟩ := packArgs_ok ok ps xs own1 st1 _ y2 k1 h2
        exact ⟨own2, j1, k2.trans j2, ValsR.one_mono (fun b hb => argZ_mono j2 hb) k3, j3⟩
      · cases hp
    · cases hp
  | [], _ :: _, _, _, _, _, _, hp => by simp [packArgs] at hp
  | _ :: _, [], _, _, _, _, _, hp => by simp [packArgs] at hp
theorem srcT_ev (a : Act) : ∀ (xs : List Operand) (ts : List Nat), (srcT xs ts).map (evS a) = xs.map a.eval
  | [], _ => rfl
  | x :: xs, ts => by simp only [srcT, List.map_cons, srcT_ev a xs ts.tail]; rfl
def OwnsR (S : Cx) (w : World) (Z : Nat → Prop) (own : Nat → Option Own) : Nat → (ps : List PK) → List Value → S.den (packTy (argT ps)) → Prop
  | i, .own t m :: ps, v :: vs, x => (∃ cs, VS t v cs ∧ S.OW w own Z (.mem (ownBase + i)) t m [] cs x.1) ∧ OwnsR S w Z own (i + 1) ps vs x.2
  | i, .val _ :: ps, _ :: vs, x => OwnsR S w Z own (i + 1) ps vs x.2
  | i, .io _ _ :: ps, _ :: vs, x => OwnsR S w Z own (i + 1) ps vs x.2
  | i, .fn _ _ :: ps, _ :: vs, x => OwnsR S w Z own (i + 1) ps vs x.2
  | _, _, _, _ => True
theorem OwnsR.none {w : World} {Z : Nat → Prop} {own : Nat → Option Own} : ∀ (ps : List PK) (i : Nat) (vs : List Value) (x : S.den (packTy (argT ps))), ps.any PK.isOwn = false → OwnsR S w Z own i ps vs x
  | [], _, _, _, _ => trivial
  | .own _ _ :: ps, _, _, _, h => by simp [PK.isOwn] at h
  | .val _ :: ps, i, [], x, h => trivial
  | .io _ _ :: ps, i, [], x, h => trivial
  | .fn _ _ :: ps, i, [], x, h => trivial
  | .val _ :: ps, i, v :: vs, x, h => OwnsR.none ps (i + 1) vs x.2 (by simpa [PK.isOwn] using h)
  | .io _ _ :: ps, i, v :: vs, x, h => OwnsR.none ps (i + 1) vs x.2 (by simpa [PK.isOwn] using h)
  | .fn _ _ :: ps, i, v :: vs, x, h => OwnsR.none ps (i + 1) vs x.2 (by simpa [PK.isOwn] using h)
theorem takeOwn_ok (ok : S.Ok) {E : Env S} {Z : Nat → Prop} : ∀ (ps : List PK) (xs : List Src) (i : Nat) (own : Nat → Option Own) (st st' : ST S) (y y' : S.den (packTy (argT ps))), Rel g own st a w → takeOwn E st ps xs y = some (y', st') →
    ValsR S w Z ps (xs.map (evS a)) y → ∃ own', Rel g own' st' a w ∧ (∀ b, own b = none → own' b = none) ∧ ValsR S w Z ps (xs.map (evS a)) y' ∧ OwnsR S w (g.Z own' w) own' i ps (xs.map (evS a)) y'
  | [], [], i, own, st, st', y, y', h, hp, hV => by
    simp only [takeOwn, Option.some.injEq, Prod.mk.injEq] at hp
    obtain ⟨_, rfl⟩ := hp
    exact ⟨own, h, fun _ h => h, trivial, trivial⟩
  | [], _ :: _, i, own, st, st', y, y', h, hp, hV => hV.elim
  | .own t m :: ps, [], i, own, st, st', y, y', h, hp, hV => hV.elim
  | .val _ :: ps, [], i, own, st, st', y, y', h, hp, hV => hV.elim
  | .io _ _ :: ps, [], i, own, st, st', y, y', h, hp, hV => hV.elim
  | .fn _ _ :: ps, [], i, own, st, st', y, y', h, hp, hV => hV.elim
  | .own t m :: ps, x :: xs, i, own, st, st', y, y', h, hp, hV => by
    simp only [takeOwn] at hp
    split at hp
    · cases hp
    · rename_i hno
      split at hp
      · rename_i x ty
        split at hp
        · rename_i c st1 hc
          split at hp
          · rename_i hm _
            split at hp
            · rename_i z hz
              cases hp
              obtain ⟨own1, cs, h1, hVS, hO, hL, hl⟩ := take_ok ok E h hc []
              obtain ⟨own2, h2, hO2, hn, _⟩ := lim_to (r := .mem (ownBase + i)) (p := []) h1 hO
              obtain ⟨ht, rfl⟩ := cast_some hz
              obtain ⟨ct, cm, cx⟩ := c
              simp only at ht hm hVS hO2
              subst ht
              subst hm
              exact ⟨own2, h2, fun b hb => (hn b).1 (hL.none b hb), ⟨trivial, hV.2⟩, ⟨cs, hVS, hO2⟩, OwnsR.none ps (i + 1) _ _ hno⟩
            · cases hp
          · cases hp
        · cases hp
      · cases hp
  | .val t :: ps, x :: xs, i, own, st, st', y, y', h, hp, hV => by
    simp only [takeOwn] at hp
    split at hp
    · rename_i z st1 e
      cases hp
      obtain ⟨own1, k1, k2, k3, k4⟩ := takeOwn_ok ok ps xs (i + 1) own st _ y.2 z h e hV.2
      exact ⟨own1, k1, k2, ⟨hV.1, k3⟩, k4⟩
    · cases hp
  | .io t m :: ps, x :: xs, i, own, st, st', y, y', h, hp, hV => by
    simp only [takeOwn] at hp
    split at hp
    · rename_i z st1 e
      cases hp
      obtain ⟨own1, k1, k2, k3, k4⟩ := takeOwn_ok ok ps xs (i + 1) own st _ y.2 z h e hV.2
      exact ⟨own1, k1, k2, ⟨hV.1, k3⟩, k4⟩
    · cases hp
  | .fn t m :: ps, x :: xs, i, own, st, st', y, y', h, hp, hV => by
    simp only [takeOwn] at hp
    split at hp
    · rename_i z st1 e
      cases hp
      obtain ⟨own1, k1, k2, k3, k4⟩ := takeOwn_ok ok ps xs (i + 1) own st _ y.2 z h e hV.2
      exact ⟨own1, k1, k2, ⟨hV.1, k3⟩, k4⟩
    · cases hp
theorem Rel.killDeep (h : Rel g own st a w) : Rel g own (st.killBy AVal.deep) a w := by
  have hroot : ∀ r', (st.killBy AVal.deep).root r' = st.root r' := fun r' => root_killBy st _ (fun _ _ _ => rfl) rfl r'
  refine ⟨h.os, h.tape, h.output, h.size, h.block, h.fresh, fun i => ?_, fun k c hk => h.mems k c hk, h.defs, h.pins⟩
  rw [look_killBy _ _ _ rfl]
  have hv := h.vals i
  cases hd : (st.look i).deep
  · simp only
    generalize st.look i = A at *
    cases A with
    | ref r' p' =>
      obtain ⟨l1, cs1, c1, e1, e2⟩ := hv
      exact ⟨l1, cs1, c1, Place_world e1 (by simpa [AVal.deep] using hd) (hroot r') (fun _ _ _ h => h), e2⟩
    | addr r' p' =>
      obtain ⟨b', off', cs1, c1, e1, e2⟩ := hv
      exact ⟨b', off', cs1, c1, Place_world e1 (by simpa [AVal.deep] using hd) (hroot r') (fun _ _ _ h => h), e2⟩
    | fn g' cs' =>
      obtain ⟨vs, f1, f2⟩ := hv
      refine ⟨vs, f1, f2.mono fun c hcm v hc => ?_⟩
      cases c with
      | d t' y => exact hc
      | m k =>
        obtain ⟨b', off', cs1, c1, e1, e2⟩ := hc
        exact ⟨b', off', cs1, c1, Place_world e1 rfl (hroot _) (fun _ _ _ h => h), e2⟩
    | _ => exact hv
  · trivial
theorem takeOwn1_ok (ok : S.Ok) {E : Env S} {Z : Nat → Prop} (ps : List PK) (xs : List Src) (i : Nat) (own : Nat → Option Own) (st st' : ST S) (y y' : S.den (packTy (argT ps))) (h : Rel g own st a w) (hp : takeOwn1 E st ps xs y = some (y', st'))
    (hV : ValsR S w Z ps (xs.map (evS a)) y) : ∃ own', Rel g own' st' a w ∧ (∀ b, own b = none → own' b = none) ∧ ValsR S w Z ps (xs.map (evS a)) y' ∧ OwnsR S w (g.Z own' w) own' i ps (xs.map (evS a)) y' ∧
      (ps.any PK.isOwn = true → (∀ k, ownBase ≤ k → st'.mems.lookup k = none) ∧ ∀ j, (st'.look j).deep = false) := by
  unfold takeOwn1 at hp
  split at hp
  · rename_i hno
    cases hp
    exact ⟨own, h, fun _ h => h, hV, OwnsR.none ps i _ _ hno, fun e => by rw [hno] at e; cases e⟩
  · split at hp
    · rename_i z st1 e
      split at hp
      · rename_i hall
        cases hp
        obtain ⟨own1, k1, k2, k3, k4⟩ := takeOwn_ok ok ps xs i own st st1 y y' h e hV
        refine ⟨own1, k1.killDeep, k2, k3, k4, fun _ => ⟨fun k hk => ?_, fun j => ?_⟩⟩
        · rw [mems_killBy]
          cases hl : st1.mems.lookup k with
          | none => rfl
          | some c =>
            have := List.all_eq_true.1 hall _ (lookup_in _ _ _ hl)
            have := Nat.le_of_ble_eq_true this
            omega
        · rw [look_killBy _ _ _ rfl]
          cases hd : (st1.look j).deep
          · exact hd
          · rfl
      · cases hp
    · cases hp
structure OutState (st st' : ST S) (ks : List Nat) (kd : Nat → Prop) : Prop where
  look : ∀ i, st'.look i = .dead ∨ (st'.look i = st.look i ∧ (ks ≠ [] ∨ (∃ k, kd k) → (st.look i).deep = false) ∧ ∀ k ∈ ks, (st.look i).hangs (.mem k) = false)
  root : ∀ r, (∀ k ∈ ks, r ≠ .mem k) → st'.root r = st.root r
theorem Rel.call (ok : S.Ok) (h : Rel g own st a w) {w' : World} {own' : Nat → Option Own} {ks : List Nat} {kd : Nat → Prop} {st' : ST S} (hst : OutState st st' ks kd) (hkd : ∀ k, kd k → st.mems.lookup k = none)
    (hos : w'.os = w.os) (htape : w'.tape = w.tape) (hout : w'.output = w.output) (hsize : w.heap.size ≤ w'.heap.size)
    (hblk : ∀ b, b < w.heap.size → (∀ k l, k ∈ ks ∨ kd k → own b ≠ some (.mem k, l)) → w'.heap[b]? = w.heap[b]? ∧ own' b = own b)
    (hfresh : ∀ b, own' b ≠ none → b < w'.heap.size)
    (hmem : ∀ k b, k ∉ ks → own' b = some (.mem k, none) → b < w.heap.size ∧ ∀ k l, k ∈ ks ∨ kd k → own b ≠ some (.mem k, l))
    (hmems : ∀ k c, k ∈ ks → st'.mems.lookup k = some c → MR g own' w' k c ∧ (∀ b, own b = some (.mem k, none) → own' b = some (.mem k, none)) ∧ ∃ c0, st.mems.lookup k = some c0 ∧ c0.t = c.t)
    (hhas : ∀ k, k ∈ ks → ∃ c, st'.mems.lookup k = some c) : Rel g own' st' a w' := by
  have hother : ∀ b r q, (∀ k, k ∈ ks ∨ kd k → r ≠ .mem k) → own b = some (r, q) → w'.heap[b]? = w.heap[b]? ∧ own' b = own b := fun b r q hr hb =>
    hblk b (h.fresh b (by rw [hb]; simp)).2 (fun k l hk e => by rw [hb] at e; exact hr k hk (Prod.mk.inj (Option.some.inj e)).1)
  have hnone : ∀ b, b < w.heap.size → own b = none → w'.heap[b]? = w.heap[b]? ∧ own' b = none := fun b hb hn => by
    obtain ⟨h1, h2⟩ := hblk b hb (fun k l _ e => by rw [hn] at e; cases e)
    exact ⟨h1, h2.trans hn⟩
  have hZ : ∀ b, g.Z own w b → g.Z own' w' b := fun b hb => ⟨hb.1, Nat.lt_of_lt_of_le hb.2.1 hsize, (hnone b hb.2.1 hb.2.2).2⟩
  have hZw : ∀ b, g.Z own w b → w'.heap[b]? = w.heap[b]? := fun b hb => (hnone b hb.2.1 hb.2.2).1
  have hOW : ∀ {r : Root} {t : Ty} {m : Mode} {p : Path} {cs' : List Value} {x : S.den t}, (∀ k, k ∈ ks ∨ kd k → r ≠ .mem k) → S.OW w own (g.Z own w) r t m p cs' x → S.OW w' own' (g.Z own' w') r t m p cs' x := fun hr hO =>
    OW_frame hZ hZw _ _ _ _ _ _ (fun b q hb => ⟨(hother b _ _ hr hb).2.trans hb, (hother b _ _ hr hb).1⟩) hO
  have hRoot : ∀ r, (∀ k, k ∈ ks ∨ kd k → r ≠ .mem k) → ∀ t l cs, RootAt own a w r t l cs → RootAt own' a w' r t l cs := fun r hr t l cs hR => by
    cases r with
    | slot s => exact hR
    | lim => exact hR
    | mem k =>
      obtain ⟨b, e, cl, f1, f2, f3, f4⟩ := hR
      obtain ⟨o1, o2⟩ := hother b _ _ hr f2
      exact ⟨b, e, cl, f1, o2.trans f2, by rw [o1]; exact f3, f4⟩
  -- places
  have hnd : ∀ r : Root, (∀ k ∈ ks, r ≠ .mem k) → (∀ k, r = .mem k → ∃ c, st.mems.lookup k = some c) → ∀ k, k ∈ ks ∨ kd k → r ≠ .mem k := fun r hr0 hr1 k hk e => by
    rcases hk with hk | hk
    · exact hr0 k hk e
    · obtain ⟨c, hc⟩ := hr1 k e
      rw [hkd k hk] at hc; cases hc
  have hplace : ∀ r p l cs c, (∀ k ∈ ks, r ≠ .mem k) → (ks ≠ [] ∨ (∃ k, kd k) → p.plain = true) → Place st own a w r p l cs c → Place st' own' a w' r p l cs c := fun r p l cs c hr0 hp hP => by
    have hr : ∀ k, k ∈ ks ∨ kd k → r ≠ .mem k := hnd r hr0 fun k e => by
      obtain ⟨t, m, x, l0, cs0, h1, _⟩ := hP
      subst e
      exact ⟨_, h1⟩
    by_cases hks : ks = [] ∧ ¬ ∃ k, kd k
    · obtain ⟨t, m, x, l0, cs0, h1, h2, h3, h4, h5, h6⟩ := hP
      refine ⟨t, m, x, l0, cs0, (hst.root r hr0).trans h1, h2, hRoot r hr _ _ _ h3, h4, nav_keep (fun b hb => (hblk b hb (fun k l hk => by rcases hk with hk | hk; rw [hks.1] at hk; cases hk; exact absurd ⟨k, hk⟩ hks.2)).1) _ _ _ _ _ h5, h6⟩
    · exact Place_world hP (hp (by
        by_cases h0 : ks = []
        · right; exact Classical.not_not.1 fun h1 => hks ⟨h0, h1⟩
        · exact .inl h0)) (hst.root r hr0) (hRoot r hr)
  refine ⟨hos.trans h.os, htape.trans h.tape, hout.trans h.output, Nat.le_trans h.size hsize, fun b hb hio => ?_, fun b hb => ?_, fun i => ?_, fun k c hk => ?_, h.defs, fun k b b' hp hb => ?_⟩
  rotate_right
  · by_cases hk' : k ∈ ks
    · obtain ⟨c, hc⟩ := hhas k hk'
      obtain ⟨⟨bm, em, cm, q1, q2, q3, q4⟩, hsame, c0, hc0, _⟩ := hmems k c hk' hc
      obtain ⟨b0, e0, cl, p1, _, _, p4⟩ := h.mems k c0 hc0
      rw [q4 b' hb, ← q4 b0 (hsame b0 p1)]
      exact h.pins k b b0 hp p1
    · obtain ⟨h1, h2⟩ := hmem k b' hk' hb
      exact h.pins k b b' hp (((hblk b' h1 h2).2).symm.trans hb)
  · refine ((hblk b (Nat.lt_of_lt_of_le hb h.size) (fun k l _ e => ?_)).1).trans (h.block b hb hio)
    rcases (h.fresh b (by rw [e]; simp)).1 with hf | hf
    · omega
    · exact hio hf
  · refine ⟨?_, hfresh b hb⟩
    by_cases hbw : b < w.heap.size
    · by_cases ho : own b = none
      · exact absurd (hnone b hbw ho).2 hb
      · exact (h.fresh b ho).1
    · left; have := h.size; omega
  · rcases hst.look i with e | ⟨e, hdp, hh⟩
    · rw [e]; trivial
    · rw [e]
      have hv := h.vals i
      generalize st.look i = A at *
      cases A with
      | dead => trivial
      | und => exact hv
      | v t m y =>
        obtain ⟨cs', e1, e2⟩ := hv
        exact ⟨cs', e1, hOW (by intro k _; simp) e2⟩
      | tup t m y =>
        obtain ⟨vs, e1, e2⟩ := hv
        exact ⟨vs, e1, TupR_frame hZ hZw _ _ _ e2⟩
      | rp t y =>
        obtain ⟨b, off, cs', e1, e2, e3, e4⟩ := hv
        exact ⟨b, off, cs', e1, hZ b e2, by rw [cellsAt_same (hZw b e2)]; exact e3, e4.frame hZ hZw⟩
      | ref r p =>
        obtain ⟨l1, cs1, c1, e1, e2⟩ := hv
        have hr : ∀ k ∈ ks, r ≠ .mem k := fun k hk e => by subst e; have := hh k hk; simp [AVal.hangs] at this
        exact ⟨l1, cs1, c1, hplace r p _ _ _ hr (fun hk => by simpa [AVal.deep] using hdp hk) e1, e2⟩
      | addr r p =>
        obtain ⟨b, off, cs1, c1, e1, e2⟩ := hv
        have hpl : ks ≠ [] ∨ (∃ k, kd k) → Path.plain p = true := fun hk => by simpa [AVal.deep] using hdp hk
        by_cases hr : ∀ k ∈ ks, r ≠ .mem k
        · exact ⟨b, off, cs1, c1, hplace r p _ _ _ hr hpl e1, e2⟩
        · have : ∃ k, k ∈ ks ∧ r = .mem k := by
            by_cases hex : ∃ k, k ∈ ks ∧ r = .mem k
            · exact hex
            · exact absurd (fun k hk e => hex ⟨k, hk, e⟩) hr
          obtain ⟨k, hk, rfl⟩ := this
          obtain ⟨c, hc⟩ := hhas k hk
          obtain ⟨hMR, hsame, c0, hc0, ht⟩ := hmems k c hk hc
          obtain ⟨t, m, x⟩ := c0
          obtain ⟨t', n, z⟩ := c
          simp only at ht
          subst ht
          obtain ⟨cs2, c2, e3⟩ := e1.plain (own' := own') (a' := a) (w' := w') (st' := st') (hpl (.inl (by intro e; rw [e] at hk; cases hk))) (show st.root (.mem k) = some _ from hc0) (show st'.root (.mem k) = some _ from hc) (fun l cs hR => by
            obtain ⟨b0, e0, cl, f1, f2, f3, f4⟩ := hR
            obtain ⟨b1, e1', cells, g1, g2, g3, g4⟩ := hMR
            have := g4 b0 (hsame b0 f2)
            subst this
            exact ⟨_, b0, e1', cells, f1, g1, g2, rfl⟩)
          exact ⟨b, off, cs2, c2, e3, e2⟩
      | fn g' cs' =>
        obtain ⟨vs, f1, f2⟩ := hv
        refine ⟨vs, f1, f2.mono fun c hcm v hc => ?_⟩
        cases c with
        | d t' y =>
          obtain ⟨b, off, cs', e1, e2, e3, e4⟩ := hc
          exact ⟨b, off, cs', e1, hZ b e2, by rw [cellsAt_same (hZw b e2)]; exact e3, e4.frame hZ hZw⟩
        | m k0 =>
          obtain ⟨b, off, cs1, c1, e1, e2⟩ := hc
          by_cases hr : ∀ k ∈ ks, Root.mem k0 ≠ .mem k
          · exact ⟨b, off, cs1, c1, hplace _ [] _ _ _ hr (fun _ => rfl) e1, e2⟩
          · have hk : k0 ∈ ks := by
              by_cases hex : k0 ∈ ks
              · exact hex
              · exact absurd (fun k hk e => by cases e; exact hex hk) hr
            obtain ⟨c, hc⟩ := hhas k0 hk
            obtain ⟨hMR, hsame, c0, hc0, ht⟩ := hmems k0 c hk hc
            obtain ⟨t, m, x⟩ := c0
            obtain ⟨t', n, z⟩ := c
            simp only at ht
            subst ht
            obtain ⟨cs2, c2, e3⟩ := e1.plain (own' := own') (a' := a) (w' := w') (st' := st') rfl (show st.root (.mem k0) = some _ from hc0) (show st'.root (.mem k0) = some _ from hc) (fun l cs hR => by
              obtain ⟨b0, e0, cl, f1, f2, f3, f4⟩ := hR
              obtain ⟨b1, e1', cells, g1, g2, g3, g4⟩ := hMR
              have := g4 b0 (hsame b0 f2)
              subst this
              exact ⟨_, b0, e1', cells, f1, g1, g2, rfl⟩)
            exact ⟨b, off, cs2, c2, e3, e2⟩
  · by_cases hk' : k ∈ ks
    · exact (hmems k c hk' hk).1
    · have hr0 : ∀ k' ∈ ks, Root.mem k ≠ .mem k' := fun k' hk'' e => by cases e; exact hk' hk''
      have hk0 : st.root (.mem k) = some c := by rw [← hst.root _ hr0]; exact hk
      have hr := hnd _ hr0 fun k' e => by cases e; exact ⟨_, hk0⟩
      obtain ⟨b, e, cells, g1, g2, g3, g4⟩ := h.mems k c hk0
      obtain ⟨o1, o2⟩ := hother b _ _ hr g1
      refine ⟨b, e, cells, o2.trans g1, by rw [o1]; exact g2, hOW hr g3, fun b' hb' => ?_⟩
      obtain ⟨h1, h2⟩ := hmem k b' hk' hb'
      exact g4 b' (((hblk b' h1 h2).2).symm.trans hb')
end
end Go.Proofs.Ytdnkjfmneppkoaa.Vm
namespace Go.Proofs.Ytdnkjfmneppkoaa.Vm
open Go Go.RowKit
set_option linter.unusedVariables false
section
variable {S : Cx} {α : Type}
variable {g : Gl S} {own : Nat → Option Own} {st : ST S} {a : Act} {w : World}
def ioPairs (E : Env S) (st : ST S) : Nat → List PK → List Src → List (Nat × Nat)
  | i, .val _ :: ps, _ :: xs => ioPairs E st (i + 1) ps xs
  | i, .fn _ _ :: ps, _ :: xs => ioPairs E st (i + 1) ps xs
  | i, .own _ _ :: ps, _ :: xs => ioPairs E st (i + 1) ps xs
  | i, .io _ _ :: ps, x :: xs => match st.avS E x with
    | .addr (.mem k) _ => (k, i) :: ioPairs E st (i + 1) ps xs
    | _ => ioPairs E st (i + 1) ps xs
  | _, _, _ => []
theorem ioPairs_fst {E : Env S} {st : ST S} : ∀ (ps : List PK) (xs : List Src) (i : Nat), (ioPairs E st i ps xs).map Prod.fst = ioMems E st ps xs
  | [], _, _ => by cases ‹List Src› <;> rfl
  | .val t :: ps, [], _ => rfl
  | .fn _ _ :: ps, [], _ => rfl
  | .own _ _ :: ps, [], _ => rfl
  | .own _ _ :: ps, x :: xs, i => ioPairs_fst ps xs (i + 1)
  | .io t m :: ps, [], _ => rfl
  | .fn _ _ :: ps, x :: xs, i => ioPairs_fst ps xs (i + 1)
  | .val t :: ps, x :: xs, i => ioPairs_fst ps xs (i + 1)
  | .io t m :: ps, x :: xs, i => by
    have ih := ioPairs_fst (E := E) (st := st) ps xs (i + 1)
    simp only [ioPairs, ioMems]
    split <;> rename_i h <;> simp only [h, List.map_cons, ih]
theorem ioPairs_ge {E : Env S} {st : ST S} : ∀ (ps : List PK) (xs : List Src) (i : Nat) (k j : Nat), (k, j) ∈ ioPairs E st i ps xs → i ≤ j
  | [], xs, _, _, _, h => by cases xs <;> cases h
  | .val t :: ps, [], _, _, _, h => by cases h
  | .fn _ _ :: ps, [], _, _, _, h => by cases h
  | .own _ _ :: ps, [], _, _, _, h => by cases h
  | .own _ _ :: ps, x :: xs, i, k, j, h => Nat.le_of_succ_le (ioPairs_ge ps xs (i + 1) k j h)
  | .fn _ _ :: ps, x :: xs, i, k, j, h => Nat.le_of_succ_le (ioPairs_ge ps xs (i + 1) k j h)
  | .io t m :: ps, [], _, _, _, h => by cases h
  | .val t :: ps, x :: xs, i, k, j, h => Nat.le_of_succ_le (ioPairs_ge ps xs (i + 1) k j h)
  | .io t m :: ps, x :: xs, i, k, j, h => by
    simp only [ioPairs] at h
    split at h
    · rcases List.mem_cons.1 h with e | h
      · cases e; exact Nat.le_refl _
      · exact Nat.le_of_succ_le (ioPairs_ge ps xs (i + 1) k j h)
    · exact Nat.le_of_succ_le (ioPairs_ge ps xs (i + 1) k j h)
theorem ioPairs_inj {E : Env S} {st : ST S} : ∀ (ps : List PK) (xs : List Src) (i : Nat) (k k' j : Nat), (k, j) ∈ ioPairs E st i ps xs → (k', j) ∈ ioPairs E st i ps xs → k = k'
  | [], xs, _, _, _, _, h, _ => by cases xs <;> cases h
  | .val t :: ps, [], _, _, _, _, h, _ => by cases h
  | .fn _ _ :: ps, [], _, _, _, _, h, _ => by cases h
  | .own _ _ :: ps, [], _, _, _, _, h, _ => by cases h
  | .own _ _ :: ps, x :: xs, i, k, k', j, h, h' => ioPairs_inj ps xs (i + 1) k k' j h h'
  | .fn _ _ :: ps, x :: xs, i, k, k', j, h, h' => ioPairs_inj ps xs (i + 1) k k' j h h'
  | .io t m :: ps, [], _, _, _, _, h, _ => by cases h
  | .val t :: ps, x :: xs, i, k, k', j, h, h' => ioPairs_inj ps xs (i + 1) k k' j h h'
  | .io t m :: ps, x :: xs, i, k, k', j, h, h' => by
    simp only [ioPairs] at h h'
    split at h
    · rename_i k0 q e
      simp only [e] at h'
      rcases List.mem_cons.1 h with e1 | h1
      · cases e1
        rcases List.mem_cons.1 h' with e2 | h2
        · cases e2; rfl
        · exact absurd (ioPairs_ge ps xs (i + 1) k' i h2) (by omega)
      · rcases List.mem_cons.1 h' with e2 | h2
        · cases e2; exact absurd (ioPairs_ge ps xs (i + 1) k i h1) (by omega)
        · exact ioPairs_inj ps xs (i + 1) k k' j h1 h2
    · rename_i hne
      have : ioPairs E st (i + 1) ps xs = (match st.avS E x with | .addr (.mem k) _ => (k, i) :: ioPairs E st (i + 1) ps xs | _ => ioPairs E st (i + 1) ps xs) := by
        split
        · rename_i k0 q e; exact absurd e (hne k0 q)
        · rfl
      rw [← this] at h'
      exact ioPairs_inj ps xs (i + 1) k k' j h h'
theorem distinct_lookup : ∀ (l : List (Nat × Nat)), distinct (l.map Prod.fst) = true → ∀ k i, (k, i) ∈ l → l.lookup k = some i
  | [], _, _, _, h => by cases h
  | (k0, i0) :: l, hd, k, i, h => by
    simp only [List.map_cons, distinct, Bool.and_eq_true, Bool.not_eq_true'] at hd
    rw [List.lookup_cons]
    rcases List.mem_cons.1 h with e | h2
    · cases e; simp
    · have hne : k ≠ k0 := by
        intro e
        have : (l.map Prod.fst).contains k0 = true := by simp; exact ⟨i, e ▸ h2⟩
        rw [this] at hd; exact absurd hd.1 (by simp)
      have : (k == k0) = false := by simpa using hne
      rw [this]
      exact distinct_lookup l hd.2 k i h2
theorem lookup_pair : ∀ (l : List (Nat × Nat)) (k i : Nat), l.lookup k = some i → (k, i) ∈ l
  | [], _, _, h => by cases h
  | (k0, i0) :: l, k, i, h => by
    rw [List.lookup_cons] at h
    cases hk : k == k0
    · rw [hk] at h; exact List.mem_cons_of_mem _ (lookup_pair l k i h)
    · rw [hk] at h
      have : k = k0 := by simpa using hk
      cases h; subst this; exact List.mem_cons_self ..
def ownPairs : Nat → List PK → List (Nat × Nat)
  | _, [] => []
  | i, .own _ _ :: ps => (ownBase + i, i) :: ownPairs (i + 1) ps
  | i, .val _ :: ps => ownPairs (i + 1) ps
  | i, .io _ _ :: ps => ownPairs (i + 1) ps
  | i, .fn _ _ :: ps => ownPairs (i + 1) ps
theorem ownPairs_ge : ∀ (ps : List PK) (i k j : Nat), (k, j) ∈ ownPairs i ps → i ≤ j ∧ k = ownBase + j
  | [], _, _, _, h => by cases h
  | .own _ _ :: ps, i, k, j, h => by
    rcases List.mem_cons.1 h with e | h
    · cases e; exact ⟨Nat.le_refl _, rfl⟩
    · have := ownPairs_ge ps (i + 1) k j h; exact ⟨by omega, this.2⟩
  | .val _ :: ps, i, k, j, h => by have := ownPairs_ge ps (i + 1) k j h; exact ⟨by omega, this.2⟩
  | .io _ _ :: ps, i, k, j, h => by have := ownPairs_ge ps (i + 1) k j h; exact ⟨by omega, this.2⟩
  | .fn _ _ :: ps, i, k, j, h => by have := ownPairs_ge ps (i + 1) k j h; exact ⟨by omega, this.2⟩
theorem ownPairs_none : ∀ (ps : List PK) (i : Nat), ps.any PK.isOwn = false → ownPairs i ps = []
  | [], _, _ => rfl
  | .own _ _ :: ps, i, h => by simp [PK.isOwn] at h
  | .val _ :: ps, i, h => ownPairs_none ps (i + 1) (by simpa [PK.isOwn] using h)
  | .io _ _ :: ps, i, h => ownPairs_none ps (i + 1) (by simpa [PK.isOwn] using h)
  | .fn _ _ :: ps, i, h => ownPairs_none ps (i + 1) (by simpa [PK.isOwn] using h)
theorem ownPairs_dist : ∀ (ps : List PK) (i : Nat), distinct ((ownPairs i ps).map Prod.fst) = true
  | [], _ => rfl
  | .own _ _ :: ps, i => by
    simp only [ownPairs, List.map_cons, distinct, ownPairs_dist ps (i + 1), Bool.and_true, Bool.not_eq_true']
    cases e : ((ownPairs (i + 1) ps).map Prod.fst).contains (ownBase + i) with
    | false => rfl
    | true =>
      have e : (ownBase + i) ∈ (ownPairs (i + 1) ps).map Prod.fst := by simpa using e
      obtain ⟨⟨k, j⟩, h1, h2⟩ := List.mem_map.1 e
      have := ownPairs_ge ps (i + 1) k j h1
      simp only at h2
      omega
  | .val _ :: ps, i => ownPairs_dist ps (i + 1)
  | .io _ _ :: ps, i => ownPairs_dist ps (i + 1)
  | .fn _ _ :: ps, i => ownPairs_dist ps (i + 1)
theorem pairs_apart {E : Env S} {st : ST S} : ∀ (ps : List PK) (xs : List Src) (i k k' j : Nat), (k, j) ∈ ioPairs E st i ps xs → (k', j) ∈ ownPairs i ps → False
  | [], xs, _, _, _, _, h, _ => by cases xs <;> cases h
  | .val t :: ps, [], _, _, _, _, h, _ => by cases h
  | .fn _ _ :: ps, [], _, _, _, _, h, _ => by cases h
  | .own _ _ :: ps, [], _, _, _, _, h, _ => by cases h
  | .io t m :: ps, [], _, _, _, _, h, _ => by cases h
  | .val t :: ps, x :: xs, i, k, k', j, h, h' => pairs_apart ps xs (i + 1) k k' j h h'
  | .fn _ _ :: ps, x :: xs, i, k, k', j, h, h' => pairs_apart ps xs (i + 1) k k' j h h'
  | .own _ _ :: ps, x :: xs, i, k, k', j, h, h' => by
    rcases List.mem_cons.1 h' with e | h'
    · cases e; have := ioPairs_ge ps xs (i + 1) k i h; omega
    · exact pairs_apart ps xs (i + 1) k k' j h h'
  | .io t m :: ps, x :: xs, i, k, k', j, h, h' => by
    have h' : (k', j) ∈ ownPairs (i + 1) ps := h'
    simp only [ioPairs] at h
    split at h
    · rcases List.mem_cons.1 h with e | h
      · cases e; have := (ownPairs_ge ps (i + 1) k' i h').1; omega
      · exact pairs_apart ps xs (i + 1) k k' j h h'
    · exact pairs_apart ps xs (i + 1) k k' j h h'
theorem distinct_append : ∀ (l l' : List Nat), distinct l = true → distinct l' = true → (∀ x ∈ l, x ∉ l') → distinct (l ++ l') = true
  | [], l', _, h, _ => h
  | x :: l, l', h1, h2, h3 => by
    simp only [distinct, Bool.and_eq_true, Bool.not_eq_true'] at h1
    simp only [List.cons_append, distinct, Bool.and_eq_true, Bool.not_eq_true']
    refine ⟨?_, distinct_append l l' h1.2 h2 (fun y hy => h3 y (List.mem_cons_of_mem _ hy))⟩
    cases e : (l ++ l').contains x with
    | false => rfl
    | true =>
      have e : x ∈ l ++ l' := by simpa using e
      rcases List.mem_append.1 e with e | e
      · have : l.contains x = true := by simpa using e
        rw [this] at h1; exact absurd h1.1 (by simp)
      · exact absurd e (h3 x (List.mem_cons_self ..))
def ownIn (pr : List (Nat × Nat)) (own : Nat → Option Own) : Nat → Option Own := fun b =>
  match own b with
  | some (.mem k, l) => match pr.lookup k with
    | some i => some (.mem i, l)
    | none => none
  | _ => none
open Classical in
noncomputable def ownOut (pr prA : List (Nat × Nat)) (own own' : Nat → Option Own) : Nat → Option Own := fun b =>
  match own' b with
  | none => if ownIn prA own b = none then own b else none
  | some (.lim, l) => some (.lim, l)
  | some (.slot _, _) => some (.lim, none)
  | some (.mem i, l) => if h : ∃ k, (k, i) ∈ pr then some (.mem h.choose, l) else some (.lim, none)
theorem ownIn_some {pr : List (Nat × Nat)} {own : Nat → Option Own} {b k i : Nat} {l : Option Path} (h : own b = some (.mem k, l)) (hp : pr.lookup k = some i) : ownIn pr own b = some (.mem i, l) := by
  simp only [ownIn, h, hp]
theorem ownIn_inv {pr : List (Nat × Nat)} {own : Nat → Option Own} {b : Nat} {r : Root} {l : Option Path} (h : ownIn pr own b = some (r, l)) : ∃ k i, own b = some (.mem k, l) ∧ pr.lookup k = some i ∧ r = .mem i := by
  unfold ownIn at h
  split at h
  · rename_i k l' e
    split at h
    · rename_i i hp; cases h; exact ⟨k, i, e, hp, rfl⟩
    · cases h
  · cases h
theorem ownOut_mem {pr prA : List (Nat × Nat)} {own own' : Nat → Option Own} (hinj : ∀ k k' j, (k, j) ∈ pr → (k', j) ∈ pr → k = k') {b k i : Nat} {l : Option Path} (h : own' b = some (.mem i, l)) (hp : (k, i) ∈ pr) :
    ownOut pr prA own own' b = some (.mem k, l) := by
  have he : ∃ k, (k, i) ∈ pr := ⟨k, hp⟩
  simp only [ownOut, h, dif_pos he]
  rw [hinj _ _ _ he.choose_spec hp]
theorem ownOut_lim {pr prA : List (Nat × Nat)} {own own' : Nat → Option Own} {b : Nat} {l : Option Path} (h : own' b = some (.lim, l)) : ownOut pr prA own own' b = some (.lim, l) := by simp only [ownOut, h]
theorem ownOut_none {pr prA : List (Nat × Nat)} {own own' : Nat → Option Own} {b : Nat} (h : own' b = none) : ownOut pr prA own own' b = if ownIn prA own b = none then own b else none := by simp only [ownOut, h]
theorem ownOut_inv {pr prA : List (Nat × Nat)} {own own' : Nat → Option Own} {b k : Nat} (h : ownOut pr prA own own' b = some (.mem k, none)) :
    (∃ i, own' b = some (.mem i, none) ∧ (k, i) ∈ pr) ∨ (own' b = none ∧ ownIn prA own b = none ∧ own b = some (.mem k, none)) := by
  unfold ownOut at h
  split at h
  · rename_i e
    split at h
    · rename_i e2; exact .inr ⟨e, e2, h⟩
    · cases h
  · cases h
  · cases h
  · rename_i i l e
    split at h
    · rename_i he
      cases h
      exact .inl ⟨i, e, he.choose_spec⟩
    · cases h
theorem ios_ok (ok : S.Ok) {E : Env S} (h : Rel g own st a w) {Z : Nat → Prop} (hZ : ∀ b, g.Z own w b → Z b) {own' : Nat → Option Own} :
    ∀ (ps : List PK) (xs : List Src) (i : Nat) (y1 y : S.den (packTy (argT ps))), packIos E st ps xs y1 = some y → ValsR S w Z ps (xs.map (evS a)) y1 → OwnsR S w (g.Z own w) own i ps (xs.map (evS a)) y1 → (∀ k j, (k, j) ∈ ownPairs i ps → ∀ b l, own b = some (.mem k, l) → own' b = some (.mem j, l)) →
    (∀ k j, (k, j) ∈ ioPairs E st i ps xs → (∀ b l, own b = some (.mem k, l) → own' b = some (.mem j, l)) ∧ (∀ b, own' b = some (.mem j, none) → own b = some (.mem k, none))) →
    ArgsR S w Z own' i ps (xs.map (evS a)) y
  | [], [], _, _, _, _, _, _, _, _ => trivial
  | [], _ :: _, _, _, _, hp, _, _, _, _ => by simp [packIos] at hp
  | _ :: _, [], _, _, _, hp, _, _, _, _ => by simp [packIos] at hp
  | p :: ps, x :: xs, i, y1, y, hp, hv, hw, hq, ho => by
    simp only [packIos] at hp
    split at hp
    · rename_i u v e1 e2
      cases hp
      cases p with
      | val t =>
        cases e1
        exact ⟨hv.1, ios_ok ok h hZ ps xs (i + 1) y1.2 v e2 hv.2 hw hq ho⟩
      | fn f n =>
        cases e1
        exact ⟨hv.1, ios_ok ok h hZ ps xs (i + 1) y1.2 v e2 hv.2 hw hq ho⟩
      | own t m =>
        cases e1
        obtain ⟨⟨cs, hVS, hO⟩, hw2⟩ := hw
        exact ⟨⟨cs, hVS, OW_frame hZ (fun _ _ => rfl) _ _ _ _ _ _ (fun b q hb => ⟨hq _ _ (List.mem_cons_self ..) b _ hb, rfl⟩) hO⟩, ios_ok ok h hZ ps xs (i + 1) y1.2 v e2 hv.2 hw2 (fun k j hk => hq k j (List.mem_cons_of_mem _ hk)) ho⟩
      | io t m =>
        simp only [ioOne] at e1
        split at e1
        · rename_i k ex
          split at e1
          · rename_i c hc
            split at e1
            · rename_i hm _
              have hav := avS_ok E h x 0
              rw [ex] at hav
              obtain ⟨b, off, cs', c', hP, v1⟩ := hav
              obtain ⟨t0, m0, x0, l0, cs0, h1, h2, h3, h4, h5, h6⟩ := hP
              have h1' : st.mems.lookup k = some ⟨t0, m0, x0⟩ := h1
              rw [hc] at h1'
              cases h1'
              obtain ⟨b0, e0, cl, f1, f2, f3, f4⟩ := h3
              obtain ⟨bk, ek, cells, g1, g2, g3, g4⟩ := h.mems k _ hc
              have := g4 b0 f2
              subst this
              rw [nav_nil] at h5
              have h5 := Option.some.inj h5
              rw [f1] at h5
              have h5 := congrArg Prod.fst h5
              simp only [Option.some.injEq, Prod.mk.injEq] at h5
              obtain ⟨rfl, rfl⟩ := h5
              obtain ⟨ht, rfl⟩ := cast_some e1
              simp only at ht hm
              subst ht
              subst hm
              have hpair : (k, i) ∈ ioPairs E st i (.io t0 m0 :: ps) (x :: xs) := by simp only [ioPairs, ex]; exact List.mem_cons_self ..
              obtain ⟨o1, o2⟩ := ho k i hpair
              refine ⟨⟨b0, ek, cells, v1, o1 b0 _ g1, g2, OW_frame hZ (fun _ _ => rfl) _ _ _ _ _ _ (fun b q hb => ⟨o1 b _ hb, rfl⟩) g3, fun b' hb' => g4 b' (o2 b' hb')⟩, ?_⟩
              exact ios_ok ok h hZ ps xs (i + 1) y1.2 v e2 hv.2 hw hq (fun k' j hj => ho k' j (by simp only [ioPairs, ex]; exact List.mem_cons_of_mem _ hj))
            · cases e1
          · cases e1
        · cases e1
    · cases hp
theorem scalar_R {w w' : World} {Z Z' : Nat → Prop} : ∀ (t : Ty) (cs : List Value) (x : S.den t), t.scalar = true → S.R w Z t cs x → S.R w' Z' t cs x := by
  intro t
  induction t with
  | int k => intro cs x _ h; exact Cx.R_int.2 (Cx.R_int.1 h)
  | bool => intro cs x _ h; exact Cx.R_bool.2 (Cx.R_bool.1 h)
  | str => intro cs x _ h; exact Cx.R_str.2 (Cx.R_str.1 h)
  | unit => intro cs x _ h; exact Cx.R_unit.2 (Cx.R_unit.1 h)
  | pair a b iha ihb =>
    intro cs x hs h
    simp only [Ty.scalar, Bool.and_eq_true] at hs
    obtain ⟨c1, c2, h1, h2, h3, h4⟩ := Cx.R_pair.1 h
    exact Cx.R_pair.2 ⟨c1, c2, h1, h2, iha _ _ hs.1 h3, ihb _ _ hs.2 h4⟩
  | agg t ih => intro cs x hs h; exact Cx.R_agg.2 (ih _ _ hs (Cx.R_agg.1 h))
  | _ => intro cs x hs _; cases hs
theorem scalar_TupR {w w' : World} {Z Z' : Nat → Prop} : ∀ (t : Ty) (x : S.den t) (vs : List Value), t.scalar = true → TupR w Z t x vs → TupR w' Z' t x vs := by
  intro t
  induction t with
  | pair a b iha ihb =>
    intro x vs hs h
    simp only [Ty.scalar, Bool.and_eq_true] at hs
    cases vs with
    | nil => exact h.elim
    | cons v vs =>
      obtain ⟨⟨cs, h1, h2⟩, h3⟩ := h
      exact ⟨⟨cs, h1, scalar_R _ _ _ hs.1 h2⟩, ihb _ _ hs.2 h3⟩
  | _ =>
    intro x vs hs h
    match vs, h with
    | [v], ⟨cs, h1, h2⟩ => exact ⟨cs, h1, scalar_R _ _ _ hs h2⟩
theorem outs_ok {E : Env S} {st0 : ST S} {w' : World} {Z' : Nat → Prop} {ownC : Nat → Option Own} : ∀ (ps : List PK) (xs : List Src) (i : Nat) (x y1 : S.den (packTy (argT ps))) (r : S.den (packTy (outT (outs ps)))) (st st' : ST S),
    packIos E st0 ps xs y1 = some x → putOuts (ioMems E st0 ps xs) (outs ps) r st = some st' → OutsR S w' Z' ownC (ioArgs i ps (xs.map (evS a))) (outs ps) r → distinct (ioMems E st0 ps xs) = true →
    (∀ j, st'.look j = .dead ∨ (st'.look j = st.look j ∧ (ioMems E st0 ps xs ≠ [] → (st.look j).deep = false) ∧ ∀ k ∈ ioMems E st0 ps xs, (st.look j).hangs (.mem k) = false)) ∧
    (∀ r, (∀ k ∈ ioMems E st0 ps xs, r ≠ .mem k) → st'.root r = st.root r) ∧
    (∀ k j, (k, j) ∈ ioPairs E st0 i ps xs → ∃ c v x, (st0.avS E x = .addr (.mem k) [] ∧ v = evS a x) ∧ st'.mems.lookup k = some c ∧ IoR S w' Z' ownC j v c.t c.m c.x ∧ ∃ c0, st0.mems.lookup k = some c0 ∧ c0.t = c.t)
  | [], [], i, x, y1, r, st, st', _, hp, _, _ => by
    cases hp
    exact ⟨fun j => .inr ⟨rfl, fun h => absurd rfl h, fun k hk => by cases hk⟩, fun r _ => rfl, fun k j h => by cases h⟩
  | [], _ :: _, _, _, _, _, _, _, h, _, _, _ => by simp [packIos] at h
  | _ :: _, [], _, _, _, _, _, _, h, _, _, _ => by simp [packIos] at h
  | .val t :: ps, xo :: xs, i, x, y1, r, st, st', h, hp, hO, hd => by
    simp only [packIos] at h
    split at h
    · rename_i u v e1 e2
      exact outs_ok ps xs (i + 1) v y1.2 r st st' e2 hp hO hd
    · cases h
  | .fn _ _ :: ps, xo :: xs, i, x, y1, r, st, st', h, hp, hO, hd => by
    simp only [packIos] at h
    split at h
    · rename_i u v e1 e2
      exact outs_ok ps xs (i + 1) v y1.2 r st st' e2 hp hO hd
    · cases h
  | .own _ _ :: ps, xo :: xs, i, x, y1, r, st, st', h, hp, hO, hd => by
    simp only [packIos] at h
    split at h
    · rename_i u v e1 e2
      exact outs_ok ps xs (i + 1) v y1.2 r st st' e2 hp hO hd
    · cases h
  | .io t m :: ps, xo :: xs, i, x, y1, r, st, st', h, hp, hO, hd => by
    simp only [packIos] at h
    split at h
    · rename_i u v e1 e2
      simp only [ioOne] at e1
      split at e1
      · rename_i k ex
        split at e1
        · rename_i c hc
          split at e1
          · rename_i hm _
            obtain ⟨ht, _⟩ := cast_some e1
            have hks : ioMems E st0 (.io t m :: ps) (xo :: xs) = k :: ioMems E st0 ps xs := by simp only [ioMems, ex]
            have hprs : ioPairs E st0 i (.io t m :: ps) (xo :: xs) = (k, i) :: ioPairs E st0 (i + 1) ps xs := by simp only [ioPairs, ex]
            rw [hks] at hp hd
            simp only [distinct, Bool.and_eq_true, Bool.not_eq_true'] at hd
            have hnk : k ∉ ioMems E st0 ps xs := fun hk => by
              have : (ioMems E st0 ps xs).contains k = true := by simpa using hk
              rw [this] at hd; exact absurd hd.1 (by simp)
            have hp' : putOuts (ioMems E st0 ps xs) (outs ps) r.2 ((st.killW (.mem k)).setRoot (.mem k) ⟨t, m, r.1⟩) = some st' := hp
            obtain ⟨hO1, hO2⟩ : IoR S w' Z' ownC i (evS a xo) t m r.1 ∧ OutsR S w' Z' ownC (ioArgs (i + 1) ps (xs.map (evS a))) (outs ps) r.2 := hO
            obtain ⟨j1, j2, j3⟩ := outs_ok ps xs (i + 1) v y1.2 r.2 _ st' e2 hp' hO2 hd.2
            rw [hks, hprs]
            refine ⟨fun j => ?_, fun r' hr' => ?_, fun k' j' hkj => ?_⟩
            · rcases j1 j with e | ⟨e, f1, f2⟩
              · exact .inl e
              · have : ((st.killW (.mem k)).setRoot (.mem k) ⟨t, m, r.1⟩).look j = (st.killW (.mem k)).look j := rfl
                rw [this, St.killW, look_killBy _ _ _ rfl] at e f1 f2
                cases hh : ((st.look j).hangs (.mem k) || (st.look j).deep)
                · rw [hh] at e f1 f2
                  rw [Bool.or_eq_false_iff] at hh
                  refine .inr ⟨e, fun _ => hh.2, fun k' hk' => ?_⟩
                  rcases List.mem_cons.1 hk' with rfl | hk'
                  · exact hh.1
                  · exact f2 k' hk'
                · rw [hh] at e; exact .inl e
            · rw [j2 r' (fun k' hk' => hr' k' (List.mem_cons_of_mem _ hk')), root_setRoot _ _ _ _ (by simp), if_neg (hr' k (List.mem_cons_self ..))]
              exact root_killBy st _ (fun _ _ _ => rfl) rfl r'
            · rcases List.mem_cons.1 hkj with e | hkj
              · cases e
                refine ⟨⟨t, m, r.1⟩, evS a xo, xo, ⟨ex, rfl⟩, ?_, hO1, c, hc, ht⟩
                have := j2 (.mem k) (fun k2 hk2 e => by cases e; exact hnk hk2)
                rw [root_setRoot _ _ _ _ (by simp), if_pos rfl] at this
                exact this
              · exact j3 k' j' hkj
          · cases e1
        · cases e1
      · cases e1
    · cases h
theorem args_io : ∀ {E : Env S} {st0 : ST S} {Z : Nat → Prop} {ownC : Nat → Option Own} (ps : List PK) (xs : List Src) (i : Nat) (x : S.den (packTy (argT ps))),
    ArgsR S w Z ownC i ps (xs.map (evS a)) x → ∀ k j, (k, j) ∈ ioPairs E st0 i ps xs → ∃ xo q t m y, st0.avS E xo = .addr (.mem k) q ∧ IoR S w Z ownC j (evS a xo) t m y
  | _, _, _, _, [], xs, _, _, _, _, _, h => by cases xs <;> cases h
  | _, _, _, _, .val t :: ps, [], _, _, _, _, _, h => by cases h
  | _, _, _, _, .fn _ _ :: ps, [], _, _, _, _, _, h => by cases h
  | _, _, _, _, .own _ _ :: ps, [], _, _, _, _, _, h => by cases h
  | _, _, _, _, .own _ _ :: ps, xo :: xs, i, x, hA, k, j, h => args_io ps xs (i + 1) x.2 hA.2 k j h
  | _, _, _, _, .fn _ _ :: ps, xo :: xs, i, x, hA, k, j, h => args_io ps xs (i + 1) x.2 hA.2 k j h
  | _, _, _, _, .io t m :: ps, [], _, _, _, _, _, h => by cases h
  | _, _, _, _, .val t :: ps, xo :: xs, i, x, hA, k, j, h => args_io ps xs (i + 1) x.2 hA.2 k j h
  | _, st0, _, _, .io t m :: ps, xo :: xs, i, x, hA, k, j, h => by
    simp only [ioPairs] at h
    split at h
    · rename_i k0 q e
      rcases List.mem_cons.1 h with e1 | h
      · cases e1
        exact ⟨xo, q, t, m, _, e, hA.1⟩
      · exact args_io ps xs (i + 1) x.2 hA.2 k j h
    · exact args_io ps xs (i + 1) x.2 hA.2 k j h
theorem outIO_nil {ps : List PK} {E : Env S} {st : ST S} {xs : List Src} (h : ps.any PK.isIo = false) : ∀ i, ioPairs E st i ps xs = [] ∧ outs ps = [] := by
  induction ps generalizing xs with
  | nil => intro i; exact ⟨by cases xs <;> rfl, rfl⟩
  | cons p ps ih =>
    simp only [List.any_cons, Bool.or_eq_false_iff] at h
    intro i
    cases p with
    | val t =>
      cases xs with
      | nil => exact ⟨rfl, (ih (xs := []) h.2 0).2⟩
      | cons x xs => exact ⟨(ih h.2 (i + 1)).1, (ih (xs := xs) h.2 0).2⟩
    | fn f n =>
      cases xs with
      | nil => exact ⟨rfl, (ih (xs := []) h.2 0).2⟩
      | cons x xs => exact ⟨(ih h.2 (i + 1)).1, (ih (xs := xs) h.2 0).2⟩
    | io t m => exact absurd h.1 (by simp [PK.isIo])
    | own t m => exact absurd h.1 (by simp [PK.isIo])
theorem noIo_noOwn {ps : List PK} (h : ps.any PK.isIo = false) : ps.any PK.isOwn = false := by
  rw [List.any_eq_false] at h ⊢
  intro p hp
  have := h p hp
  cases p <;> simp_all [PK.isIo, PK.isOwn]
theorem execOp_call {o : Oper} {c : Call} {f : Nat} (ho : o.op = .call c) (hc : c.callee = .value (.func f)) : execOp a.eval o = callFunc f (c.args.map a.eval) := by
  simp only [execOp, ho, resolve, hc, Act.eval, Deferred.ofValue, pure_bind, invoke]
  simp
def keepsOp (E : Env S) (o : Oper) : Bool :=
  match o.op with
  | .store .. => false
  | .mapUpdate .. => false
  | .call c => match c.callee with
    | .value (.func f) => match E.fs f with
      | some F => !F.ps.any PK.isIo && F.o.isNone
      | none => true
    | .value (.tmp _) => !E.wr
    | .builtin .append => false
    | _ => true
  | _ => true
theorem do_entersC {o : Oper} {f : Nat} {args : Array Value} {κ : ST S → Option α} {r : α} {keep : Bool} (hx : execOp a.eval o = callFunc f args)
    (h : Enters g.P f args w fun v w' => ∃ own' st', Rel g own' st' (a.put o.dst v) w' ∧ κ st' = some r ∧ (keep = true → Below w.heap.size w w')) : Do g keep o a w κ r := by
  intro Q
  unfold Oper.wp
  rw [hx]
  unfold Enters at h
  split at h
  · rename_i v w' e
    rw [e]
    obtain ⟨own', st', h1, h2, h3⟩ := h
    exact ⟨own', st', h1, h2, tmps_put_size, h3⟩
  · rename_i f' args' w' e
    rw [e]
    refine Calls.mono h fun e w'' he => ?_
    obtain ⟨v, rfl, own', st', h1, h2, h3⟩ := he
    exact ⟨own', st', h1, h2, tmps_put_size, h3⟩
  · exact h.elim
theorem Enters.mono {P : Program} {f : FuncId} {args : Array Value} {R R' : Value → World → Prop} (h : Enters P f args w R) (hr : ∀ v w', R v w' → R' v w') : Enters P f args w R' := by
  unfold Enters at *
  split at h
  · exact hr _ _ h
  · exact Calls.mono h fun e w'' ⟨v, he, hR⟩ => ⟨v, he, hr _ _ hR⟩
  · exact h.elim
theorem Z_argZ {fz : Bool} {b : Nat} (h : g.Z own w b) : argZ g fz own w b := by
  cases fz
  · exact Z_A h
  · exact h
theorem put_res (h : Rel g own st a w) (hn : Hint) {d : Nat} (hpin : g.pin d = none) (hd : d < a.tmps.size) {rt : Ty} {rm : Mode} {v : Value} {x : S.den rt} (hR : Res1 S w (g.Z own w) own rt rm v x) :
    ∃ own', Rel g own' (putRes1 hn d rt rm x st) (a.put (some d) v) w := by
  cases rt with
  | box t => cases rm with
    | own m =>
      obtain ⟨b, e, cells, rfl, h2, h3, h4⟩ := hR
      exact h.asMem hn hpin hd (c := ⟨t, m, x⟩) h2 h3 h4
    | _ =>
      obtain ⟨cs, hVS, hO⟩ := hR
      exact put_lim h hn hd (c := ⟨_, _, x⟩) hVS hO
  | _ =>
    obtain ⟨cs, hVS, hO⟩ := hR
    exact put_lim h hn hd (c := ⟨_, rm, x⟩) hVS hO
theorem res_apart {w' : World} {Z Z' : Nat → Prop} {own own' : Nat → Option Own} {rt : Ty} {rm : Mode} {v : Value} {x : S.den rt} (h1 : rt.scalar = true) (h2 : rm.isRo = true) (h : Res1 S w' Z own rt rm v x) : Res1 S w' Z' own' rt rm v x := by
  have hro : rm = .ro := by cases rm <;> first | rfl | cases h2
  subst hro
  obtain ⟨cs, hVS, hO⟩ := h.ro
  exact .of ⟨cs, hVS, OW_ro.2 (scalar_R _ _ _ h1 (OW_ro.1 hO))⟩
def FnTmp (a : Act) : List PK → List Src → Prop
  | .fn f n :: ps, x :: xs => (∃ s ty, ∃ cs : List Value, x = .op (.tmp s) ty ∧ a.tmps.getD s undef = .func (.func f) #[] cs.toArray ∧ cs.length = n) ∧ FnTmp a ps xs
  | .val _ :: ps, _ :: xs => FnTmp a ps xs
  | .io _ _ :: ps, _ :: xs => FnTmp a ps xs
  | .own _ _ :: ps, _ :: xs => FnTmp a ps xs
  | _, _ => True
theorem packArgs_fn (ok : S.Ok) {E : Env S} {fz : Bool} : ∀ (ps : List PK) (xs : List Src) (own : Nat → Option Own) (st st' : ST S) (y : S.den (packTy (argT ps))), Rel g own st a w →
    packArgs E fz ps xs st = some (y, st') → FnTmp a ps xs ∧ ps.length = xs.length
  | [], [], _, _, _, _, _, _ => ⟨trivial, rfl⟩
  | p :: ps, x :: xs, own, st, st', y, h, hp => by
    simp only [packArgs] at hp
    split at hp
    · rename_i y1 st1 h1
      split at hp
      · rename_i y2 st2 h2
        obtain ⟨own1, k1, k2, k3⟩ := packOne_ok ok h h1
        obtain ⟨j1, j2⟩ := packArgs_fn ok ps xs own1 st1 _ y2 k1 h2
        refine ⟨?_, by simp [j2]⟩
        cases p with
        | val t => exact j1
        | io t m => exact j1
        | own t m => exact j1
        | fn f n =>
          refine ⟨?_, j1⟩
          simp only [packOne] at h1
          split at h1
          · split at h1
            · rename_i s
              split at h1
              · rename_i f' cs e
                split at h1
                · rename_i hd
                  obtain ⟨rfl, hn⟩ := of_decide_eq_true hd
                  have hv := h.vals s
                  rw [e] at hv
                  obtain ⟨vs, g1, g2⟩ := hv
                  exact ⟨s, _, vs, rfl, g1, by rw [← g2.len, hn]⟩
                · cases h1
              · cases h1
            · cases h1
          · cases h1
      · cases hp
    · cases hp
  | [], _ :: _, _, _, _, _, _, hp => by simp [packArgs] at hp
  | _ :: _, [], _, _, _, _, _, hp => by simp [packArgs] at hp
theorem capsS_ev {s f : Nat} {cs : List Value} (h : a.tmps.getD s undef = .func (.func f) #[] cs.toArray) : (capsS (.tmp s) cs.length).map (evS a) = cs := by
  simp only [capsS, List.map_map]
  apply List.ext_getElem
  · simp
  · intro i h1 h2
    simp only [List.getElem_map, List.getElem_range, Function.comp, evS, h, capsOf]
    simp [h2]
theorem flat_ok : ∀ (ps : List PK) (pend : List Src) (xs : List Operand) (ts : List Nat) (tl : List Src), FnTmp a ps (flatS ps pend xs ts tl) → ps.length = (flatS ps pend xs ts tl).length →
    flatV ps (pend.map (evS a)) (xs.map a.eval ++ tl.map (evS a)) = (flatS ps pend xs ts tl).map (evS a)
  | [], pend, xs, ts, tl, _, _ => by
    simp [flatS, flatV, evS, Function.comp_def]
  | .val _ :: ps, c :: pend, xs, ts, tl, h, hl => by
    simp only [flatS, List.map_cons, flatV, flat_ok ps pend xs ts tl h (by simpa [flatS] using hl)]
  | .io _ _ :: ps, c :: pend, xs, ts, tl, h, hl => by
    simp only [flatS, List.map_cons, flatV, flat_ok ps pend xs ts tl h (by simpa [flatS] using hl)]
  | .own _ _ :: ps, c :: pend, xs, ts, tl, h, hl => by
    simp only [flatS, List.map_cons, flatV, flat_ok ps pend xs ts tl h (by simpa [flatS] using hl)]
  | .own _ _ :: ps, [], x :: xs, ts, tl, h, hl => by
    have ih := flat_ok ps [] xs ts.tail tl h (by simpa [flatS] using hl)
    simp only [List.map_nil] at ih
    simp only [flatS, List.map_cons, List.map_nil, List.cons_append, flatV, ih, evS]
  | .own _ _ :: ps, [], [], ts, [], h, hl => by simp [flatS] at hl
  | .own _ _ :: ps, [], [], ts, t :: tl, h, hl => by
    have ih := flat_ok ps [] [] ts tl h (by simpa [flatS] using hl)
    simp only [List.map_nil, List.nil_append] at ih
    simp only [flatS, List.map_cons, List.map_nil, List.nil_append, flatV, ih]
  | .fn _ _ :: ps, c :: pend, xs, ts, tl, h, hl => by
    simp only [flatS, List.map_cons, flatV, flat_ok ps pend xs ts tl h.2 (by simpa [flatS] using hl)]
  | .fn f n :: ps, [], x :: xs, ts, tl, h, hl => by
    obtain ⟨⟨s, ty, cs, e1, e2, e3⟩, h2⟩ := h
    cases e1
    subst e3
    have ih := flat_ok ps (capsS (.tmp s) cs.length) xs ts.tail tl h2 (by simpa [flatS] using hl)
    rw [capsS_ev e2] at ih
    have e4 : a.eval (.tmp s) = .func (.func f) #[] cs.toArray := e2
    simp only [flatS, List.map_cons, List.map_nil, List.cons_append, flatV, e4, capsOf, ih, evS]
  | .val _ :: ps, [], x :: xs, ts, tl, h, hl => by
    have ih := flat_ok ps [] xs ts.tail tl h (by simpa [flatS] using hl)
    simp only [List.map_nil] at ih
    simp only [flatS, List.map_cons, List.map_nil, List.cons_append, flatV, ih, evS]
  | .io _ _ :: ps, [], x :: xs, ts, tl, h, hl => by
    have ih := flat_ok ps [] xs ts.tail tl h (by simpa [flatS] using hl)
    simp only [List.map_nil] at ih
    simp only [flatS, List.map_cons, List.map_nil, List.cons_append, flatV, ih, evS]
  | .fn _ _ :: ps, [], [], ts, tl, h, hl => by simp [flatS] at hl
  | .val _ :: ps, [], [], ts, [], h, hl => by simp [flatS] at hl
  | .io _ _ :: ps, [], [], ts, [], h, hl => by simp [flatS] at hl
  | .val _ :: ps, [], [], ts, t :: tl, h, hl => by
    have ih := flat_ok ps [] [] ts tl h (by simpa [flatS] using hl)
    simp only [List.map_nil, List.nil_append] at ih
    simp only [flatS, List.map_cons, List.map_nil, List.nil_append, flatV, ih]
  | .io _ _ :: ps, [], [], ts, t :: tl, h, hl => by
    have ih := flat_ok ps [] [] ts tl h (by simpa [flatS] using hl)
    simp only [List.map_nil, List.nil_append] at ih
    simp only [flatS, List.map_cons, List.map_nil, List.nil_append, flatV, ih]
theorem ioPairs_key {E : Env S} {st : ST S} : ∀ (ps : List PK) (xs : List Src) (i : Nat) (y1 y : S.den (packTy (argT ps))), packIos E st ps xs y1 = some y → ∀ k j, (k, j) ∈ ioPairs E st i ps xs → ∃ c, st.mems.lookup k = some c
  | [], xs, _, _, _, _, k, j, h => by cases xs <;> cases h
  | _ :: _, [], _, _, _, hp, _, _, _ => by simp [packIos] at hp
  | .val t :: ps, x :: xs, i, y1, y, hp, k, j, h => by
    simp only [packIos] at hp
    split at hp
    · exact ioPairs_key ps xs (i + 1) y1.2 _ (by assumption) k j h
    · cases hp
  | .fn _ _ :: ps, x :: xs, i, y1, y, hp, k, j, h => by
    simp only [packIos] at hp
    split at hp
    · exact ioPairs_key ps xs (i + 1) y1.2 _ (by assumption) k j h
    · cases hp
  | .own _ _ :: ps, x :: xs, i, y1, y, hp, k, j, h => by
    simp only [packIos] at hp
    split at hp
    · exact ioPairs_key ps xs (i + 1) y1.2 _ (by assumption) k j h
    · cases hp
  | .io t m :: ps, x :: xs, i, y1, y, hp, k, j, h => by
    simp only [packIos] at hp
    split at hp
    · rename_i u v e1 e2
      simp only [ioOne] at e1
      split at e1
      · rename_i k0 ex
        split at e1
        · rename_i c hc
          simp only [ioPairs, ex] at h
          rcases List.mem_cons.1 h with e | h
          · cases e; exact ⟨c, hc⟩
          · exact ioPairs_key ps xs (i + 1) y1.2 _ e2 k j h
        · cases e1
      · cases e1
    · cases hp
theorem do_callS {o : Oper} {f : Nat} {F : FSpec S.toNm} {hn : Hint} {κ : ST S → Option α} {r : α} {keep : Bool} {xs : List Operand} {ts : List Nat} {tl : List Src} (ok : S.Ok) (hok : FnOk0 g.P F f) (hpin : ∀ d, d < a.tmps.size → g.pin d = none) (h : Rel g own st a w) (hd : ∀ d, o.dst = some d → d < a.tmps.size)
    (hx : execOp a.eval o = callFunc f (xs.map a.eval ++ tl.map (evS a)).toArray) (hkp : keep = true → F.ps.any PK.isIo = false) (hκ : callS g.E hn F (flatS F.ps [] xs ts tl) o.dst st κ = some r) : Do g keep o a w κ r := by
  unfold callS at hκ
  · split at hκ
    · cases hκ
    · rename_i y0 st0 hpack0
      split at hκ
      · cases hκ
      rename_i y1 stq hpack
      split at hκ
      · cases hκ
      rename_i st1 hfrz
      split at hκ
      · cases hκ
      · rename_i hdist
        split at hκ
        · cases hκ
        · rename_i x hios
          obtain ⟨res, hf, hk2⟩ := bindR_some hκ
          clear hκ
          split at hk2
          · rename_i st2 hput
            obtain ⟨own0, h0, hL, hV0⟩ := packArgs_ok ok F.ps _ own st st0 y0 h hpack0
            obtain ⟨hfn, hfl⟩ := packArgs_fn ok F.ps _ own st st0 y0 h hpack0
            obtain ⟨own1, h1, hN1, hV1, hW1, hOw⟩ : ∃ own1, Rel g own1 st1 a w ∧ (∀ b, own0 b = none → own1 b = none) ∧ ValsR S w (argZ g (!F.apart) own0 w) F.ps ((flatS F.ps [] xs ts tl).map (evS a)) y1 ∧ OwnsR S w (g.Z own1 w) own1 ioBase F.ps ((flatS F.ps [] xs ts tl).map (evS a)) y1 ∧
                (F.ps.any PK.isOwn = true → (∀ k, ownBase ≤ k → st1.mems.lookup k = none) ∧ ∀ j, (st1.look j).deep = false) := by
              obtain ⟨ownq, q1, q2, q3, q4, q5⟩ := takeOwn1_ok ok F.ps _ ioBase own0 st0 stq y0 y1 h0 hpack hV0
              unfold frzIos1 at hfrz
              split at hfrz
              · cases hfrz
                exact ⟨ownq, q1, q2, q3, q4, q5⟩
              · rename_i hno
                obtain ⟨ownz, z1, z2⟩ := frzIos_ok ok F.ps _ ownq stq st1 q1 hfrz
                exact ⟨ownz, z1, fun b hb => z2.none b (q2 b hb), q3, OwnsR.none F.ps _ _ _ hno, fun e => by rw [hno] at e; cases e⟩
            have hV := ValsR.mono (Z' := argZ g (!F.apart) own1 w) (fun b hb => by
              cases hna : F.apart
              · rw [hna] at hb
                have hb : g.Z own0 w b := hb
                exact ⟨hb.1, hb.2.1, hN1 b hb.2.2⟩
              · rw [hna] at hb
                exact hb) _ _ _ hV1
            have hflat : flatV F.ps [] (xs.map a.eval ++ tl.map (evS a)) = _ := flat_ok F.ps [] xs ts tl hfn hfl
            generalize hxs : flatS F.ps [] xs ts tl = ys at *
            generalize hZd : argZ g (!F.apart) own1 w = Z at *
            have hZ1 : ∀ b, g.Z own1 w b → Z b := fun b hb => by
              rw [← hZd]; exact Z_argZ hb
            let pr := ioPairs g.E st1 ioBase F.ps ys
            let prA := pr ++ ownPairs ioBase F.ps
            have hprd : distinct (pr.map Prod.fst) = true := by rw [ioPairs_fst]; exact hdist
            have hkey : ∀ k i, (k, i) ∈ pr → ∃ c, st1.mems.lookup k = some c := ioPairs_key F.ps ys ioBase y1 x hios
            have hprA : distinct (prA.map Prod.fst) = true := by
              rw [List.map_append]
              refine distinct_append _ _ hprd (ownPairs_dist _ _) fun k hk hk' => ?_
              obtain ⟨⟨k1, i⟩, e1, rfl⟩ := List.mem_map.1 hk
              obtain ⟨⟨k2, j⟩, e2, e3⟩ := List.mem_map.1 hk'
              have e4 := (ownPairs_ge _ _ _ _ e2).2
              cases ho : F.ps.any PK.isOwn with
              | false => rw [ownPairs_none _ _ ho] at e2; cases e2
              | true =>
                obtain ⟨c, hc⟩ := hkey _ _ e1
                simp only at e3
                rw [(hOw ho).1 k1 (by omega)] at hc; cases hc
            have hinj : ∀ k k' j, (k, j) ∈ pr → (k', j) ∈ pr → k = k' := fun k k' j => ioPairs_inj F.ps ys ioBase k k' j
            have hks : ∀ k, k ∈ ioMems g.E st1 F.ps ys ↔ ∃ i, (k, i) ∈ pr := fun k => by
              rw [← ioPairs_fst F.ps ys ioBase, List.mem_map]
              exact ⟨fun ⟨p, hp, e⟩ => ⟨p.2, by subst e; exact hp⟩, fun ⟨i, hp⟩ => ⟨_, hp, rfl⟩⟩
            have hinjA : ∀ k k' j, (k, j) ∈ prA → (k', j) ∈ prA → k = k' := fun k k' j e1 e2 => by
              rcases List.mem_append.1 e1 with e1 | e1 <;> rcases List.mem_append.1 e2 with e2 | e2
              · exact hinj _ _ _ e1 e2
              · exact (pairs_apart _ _ _ _ _ _ e1 e2).elim
              · exact (pairs_apart _ _ _ _ _ _ e2 e1).elim
              · rw [(ownPairs_ge _ _ _ _ e1).2, (ownPairs_ge _ _ _ _ e2).2]
            have hap : F.apart = true → (pr = [] ∧ prA = []) ∧ outs F.ps = [] := fun ha => by
              simp only [FSpec.apart, Bool.and_eq_true, Bool.not_eq_true'] at ha
              have := outIO_nil (E := g.E) (st := st1) (xs := ys) ha.2 ioBase
              refine ⟨⟨this.1, ?_⟩, this.2⟩
              show pr ++ ownPairs ioBase F.ps = []
              rw [ownPairs_none _ _ (noIo_noOwn ha.2), List.append_nil]
              exact this.1
            have hin : ∀ b, own1 b = none → ownIn prA own1 b = none := fun b hb => by simp only [ownIn, hb]
            have hArgs : ArgsR S w Z (ownIn prA own1) ioBase F.ps (ys.map (evS a)) x :=
              ios_ok ok h1 hZ1 F.ps ys ioBase y1 x hios hV hW1 (fun k j hkj b l hb => ownIn_some hb (distinct_lookup prA hprA k j (List.mem_append_right _ hkj))) (fun k j hkj => ⟨fun b l hb => ownIn_some hb (distinct_lookup prA hprA k j (List.mem_append_left _ hkj)), fun b hb => by
                obtain ⟨k', i, e1, e2, e3⟩ := ownIn_inv hb
                cases e3
                have := hinjA _ _ _ (List.mem_append_left _ hkj) (lookup_pair prA k' _ e2)
                subst this; exact e1⟩)
            have hent := hok w Z (ownIn prA own1) (xs.map a.eval ++ tl.map (evS a)) x res (fun b hb => by
                rw [← hZd] at hb
                cases hna : F.apart
                · rw [hna] at hb
                  have hb : g.Z own1 w b := hb
                  exact ⟨hb.2.1, hin b hb.2.2⟩
                · rw [hna] at hb
                  have hb : g.A w b := hb
                  have := (hap hna).1.2
                  exact ⟨hb.2, by
                    cases e : ownIn prA own1 b with
                    | none => rfl
                    | some rl =>
                      obtain ⟨k, i, _, e2, _⟩ := ownIn_inv (r := rl.1) (l := rl.2) e
                      rw [this] at e2; cases e2⟩)
              (fun b hb => by
                cases e : own1 b with
                | none => exact absurd (hin b e) hb
                | some rl => exact (h1.fresh b (by rw [e]; simp)).2) (by rw [hflat]; exact hArgs) (h1.glob.frame hZ1 (fun _ _ => rfl)) hf
            refine do_entersC hx (Enters.mono hent fun v w' hres => ?_)
            obtain ⟨ownC', hleft, hR, hO⟩ := hres
            rw [hflat] at hO
            obtain ⟨j1, j2, j3⟩ := outs_ok F.ps ys ioBase x y1 res.2 st1 st2 hios hput hO hdist
            let own2 := ownOut pr prA own1 ownC'
            have hlt1 : ∀ b, own1 b ≠ none → b < w.heap.size := fun b hb => (h1.fresh b hb).2
            let kd : Nat → Prop := fun k => ∃ j, (k, j) ∈ ownPairs ioBase F.ps
            have inNone : ∀ b, (∀ k l, k ∈ ioMems g.E st1 F.ps ys ∨ kd k → own1 b ≠ some (.mem k, l)) → ownIn prA own1 b = none := fun b hb => by
              cases e : ownIn prA own1 b with
              | none => rfl
              | some rl =>
                obtain ⟨k, i, e1, e2, _⟩ := ownIn_inv (r := rl.1) (l := rl.2) e
                rcases List.mem_append.1 (lookup_pair prA k i e2) with e3 | e3
                · exact absurd e1 (hb k _ (.inl ((hks k).2 ⟨i, e3⟩)))
                · exact absurd e1 (hb k _ (.inr ⟨i, e3⟩))
            have cNone : ∀ b, b < w.heap.size → ownIn prA own1 b = none → ownC' b = none := fun b hb hi => by
              cases e : ownC' b with
              | none => rfl
              | some _ =>
                rcases (hleft.own b (by rw [e]; simp)).2 with h' | h'
                · omega
                · exact absurd hi h'
            have hZ2 : F.apart = false → ∀ b, zoneOf Z (ownIn prA own1) ownC' w w' b → g.Z own2 w' b := fun hna b hb => by
              obtain ⟨hb1, hb2, hb3⟩ := hb
              have e2 : own2 b = if ownIn prA own1 b = none then own1 b else none := ownOut_none hb3
              rcases hb1 with hb1 | hb1 | hb1
              · have : g.Z own1 w b := by
                  rw [← hZd, hna] at hb1; exact hb1
                exact ⟨this.1, hb2, by rw [e2, if_pos (hin b this.2.2)]; exact this.2.2⟩
              · have hn1 : own1 b = none := by
                  cases e : own1 b with
                  | none => rfl
                  | some _ => have := hlt1 b (by rw [e]; simp); omega
                exact ⟨.inr (.inl (Nat.le_trans h1.size hb1)), hb2, by rw [e2, if_pos (hin b hn1)]; exact hn1⟩
              · have hn1 : own1 b ≠ none := fun e => hb1 (hin b e)
                exact ⟨.inr (h1.fresh b hn1).1, hb2, by rw [e2, if_neg hb1]⟩
            have hrel : Rel g own2 st2 a w' := by
              refine h1.call ok (ks := ioMems g.E st1 F.ps ys) (kd := kd) ⟨fun j => ?_, j2⟩ (fun k ⟨j, hj⟩ => ?_) hleft.os hleft.tape hleft.output hleft.size (fun b hb hno => ?_) (fun b hb => ?_) (fun k b hk hb => ?_) (fun k c' hk hc' => ?_) (fun k hk => ?_)
              · rcases j1 j with e | ⟨e, e1, e2⟩
                · exact .inl e
                · refine .inr ⟨e, fun hor => ?_, e2⟩
                  rcases hor with hor | ⟨k, j', hk⟩
                  · exact e1 hor
                  · cases ho : F.ps.any PK.isOwn with
                    | false => rw [ownPairs_none _ _ ho] at hk; cases hk
                    | true => exact (hOw ho).2 j
              · cases ho : F.ps.any PK.isOwn with
                | false => rw [ownPairs_none _ _ ho] at hj; cases hj
                | true => exact (hOw ho).1 k (by rw [(ownPairs_ge _ _ _ _ hj).2]; omega)
              · have hi := inNone b hno
                refine ⟨hleft.block b hb hi, ?_⟩
                show ownOut pr prA own1 ownC' b = own1 b
                rw [ownOut_none (cNone b hb hi), if_pos hi]
              · by_cases hcb : ownC' b = none
                · have e2 : own2 b = if ownIn prA own1 b = none then own1 b else none := ownOut_none hcb
                  have : own1 b ≠ none := fun e => by rw [e2, e] at hb; split at hb <;> exact hb rfl
                  exact Nat.lt_of_lt_of_le (hlt1 b this) hleft.size
                · exact (hleft.own b hcb).1
              · rcases ownOut_inv hb with ⟨i, _, hp⟩ | ⟨_, e0, e⟩
                · exact absurd ((hks k).2 ⟨i, hp⟩) hk
                · refine ⟨hlt1 b (by rw [e]; simp), fun k' l hk' e' => ?_⟩
                  rw [e] at e'
                  cases e'
                  rcases hk' with hk' | ⟨j, hj⟩
                  · exact hk hk'
                  · rw [ownIn_some e (distinct_lookup prA hprA k j (List.mem_append_right _ hj))] at e0; cases e0
              · obtain ⟨i, hki⟩ := (hks k).1 hk
                obtain ⟨c2, v2, xo, ⟨ex, rfl⟩, hl, hIo, c0, hc0, ht⟩ := j3 k i hki
                rw [hl] at hc'
                cases hc'
                obtain ⟨b, e, cells, f1, f2, f3, f4, f5⟩ := hIo
                have hna : F.apart = false := by
                  cases e : F.apart with
                  | false => rfl
                  | true =>
                    have := (hap e).1.1
                    have hki' : (k, i) ∈ pr := hki
                    rw [this] at hki'; cases hki'
                obtain ⟨xo', q', t', m', y', ex', hI0⟩ := args_io F.ps ys ioBase x hArgs k i hki
                refine ⟨⟨b, e, cells, ownOut_mem hinj f2 hki, f3, OW_frame (hZ2 hna) (fun _ _ => rfl) _ _ _ _ _ _ (fun b' q hb' => ⟨ownOut_mem hinj hb' hki, rfl⟩) f4, fun b' hb' => ?_⟩, fun b0 hb0 => ?_, c0, hc0, ht⟩
                · rcases ownOut_inv hb' with ⟨i', g1, g2⟩ | ⟨_, g2, g3⟩
                  · have e1 := distinct_lookup pr hprd k i hki
                    have e2 := distinct_lookup pr hprd k i' g2
                    rw [e1] at e2
                    cases e2
                    exact f5 b' g1
                  · rw [ownIn_some g3 (distinct_lookup prA hprA k i (List.mem_append_left _ hki))] at g2; cases g2
                · have hav := avS_ok g.E h1 xo 0
                  rw [ex] at hav
                  obtain ⟨bb, off, cs1, c1, hP, v1⟩ := hav
                  obtain ⟨t3, m3, x3, l3, cs3, p1, p2, p3, p4, p5, p6⟩ := hP
                  obtain ⟨b4, e4, cl4, q1, q2, q3, q4⟩ := p3
                  rw [nav_nil] at p5
                  have p5 := congrArg Prod.fst (Option.some.inj p5)
                  rw [q1] at p5
                  simp only [Option.some.injEq, Prod.mk.injEq] at p5
                  obtain ⟨rfl, rfl⟩ := p5
                  rw [f1] at v1
                  have : b = b4 := by simpa using v1
                  subst this
                  obtain ⟨bk, ek, ck, g1, g2, g3, g4⟩ := h1.mems k _ p1
                  have e1 := g4 b0 hb0
                  have e2 := g4 b q2
                  rw [e1, ← e2]
                  exact ownOut_mem hinj f2 hki
              · obtain ⟨i, hki⟩ := (hks k).1 hk
                obtain ⟨c2, v2, xo, _, hl, _⟩ := j3 k i hki
                exact ⟨c2, hl⟩
            have hkeep : keep = true → Below w.heap.size w w' := fun hk => by
              have hk := hkp hk
              have hpr : prA = [] := by
                show pr ++ ownPairs ioBase F.ps = []
                rw [ownPairs_none _ _ (noIo_noOwn hk), List.append_nil]
                exact (outIO_nil hk ioBase).1
              exact ⟨hleft.os, hleft.tape, hleft.output, hleft.size, fun b hb => hleft.block b hb (by
                cases e : ownIn prA own1 b with
                | none => rfl
                | some rl =>
                  obtain ⟨k, i, _, e2, _⟩ := ownIn_inv (r := rl.1) (l := rl.2) e
                  rw [hpr] at e2; cases e2)⟩
            cases hdst : o.dst with
            | none =>
              rw [hdst] at hk2
              exact ⟨own2, st2, hrel, hk2, hkeep⟩
            | some d =>
              rw [hdst] at hk2
              have hdl := hd d hdst
              simp only [putRes] at hk2
              -- the result
              unfold ResR at hR
              split at hR
              · rename_i h0
                rw [h0] at hk2
                exact ⟨own2, _, hrel.put hn hdl (x := .dead) trivial, hk2, hkeep⟩
              · rename_i h0
                rw [h0] at hk2
                have hR2 : Res1 S w' (g.Z own2 w') own2 F.rt F.rm v res.1 := by
                  cases ha : F.apart with
                  | false => exact hR.frame (hZ2 ha) (fun b q hb => ownOut_lim hb)
                  | true =>
                    simp only [FSpec.apart, Bool.and_eq_true] at ha
                    exact res_apart ha.1.1 ha.1.2 hR
                obtain ⟨own3, h3⟩ := put_res hrel hn (hpin d hdl) hdl hR2
                exact ⟨own3, _, h3, hk2, hkeep⟩
              · rename_i n0 n1
                obtain ⟨vs, rfl, hT⟩ := hR
                have hT2 : TupR w' (g.Z own2 w') F.rt res.1 vs.toList := by
                  cases ha : F.apart with
                  | false => exact TupR_frame (hZ2 ha) (fun _ _ => rfl) _ _ _ hT
                  | true =>
                    simp only [FSpec.apart, Bool.and_eq_true] at ha
                    exact scalar_TupR _ _ _ ha.1.1 hT
                have hκ' : κ (st2.put hn d (.tup F.rt F.rm res.1)) = some r := by
                  match hnr : F.nres, n0, n1 with
                  | 0, n0, _ => exact absurd rfl n0
                  | 1, _, n1 => exact absurd rfl n1
                  | n + 2, _, _ => rw [hnr] at hk2; exact hk2
                exact ⟨own2, _, hrel.put hn hdl (x := .tup F.rt F.rm res.1) ⟨vs, rfl, hT2⟩, hκ', hkeep⟩
          · cases hk2
theorem do_callK {o : Oper} {c : Call} {f : Nat} {F : FSpec S.toNm} {hn : Hint} {κ : ST S → Option α} {r : α} (ok : S.Ok) (hF : g.E.fs f = some F) (hok : FnOk0 g.P F f) (hpin : ∀ d, d < a.tmps.size → g.pin d = none) (h : Rel g own st a w) (hd : ∀ d, o.dst = some d → d < a.tmps.size)
    (ho : o.op = .call c) (hc : c.callee = .value (.func f)) (hκ : callK g.E hn F c.args.toList c.argTypes.toList o.dst st κ = some r) : Do g (keepsOp g.E o) o a w κ r := by
  refine do_callS ok hok hpin h hd (xs := c.args.toList) (ts := c.argTypes.toList) (tl := []) ?_ (fun hk => ?_) hκ
  · rw [execOp_call ho hc]
    congr 1
    apply Array.ext'; simp
  · simp only [keepsOp, ho, hc, hF, Bool.and_eq_true, Bool.not_eq_true'] at hk
    exact hk.1
theorem caps_ok {w : World} {Z : Nat → Prop} : ∀ (ps : List PK) (vs : List Value) (y : S.den (packTy (argT ps))), ps.all PK.isCap = true → S.R w Z (packTy (argT ps)) vs y → ValsR S w Z ps vs y
  | [], vs, y, _, h => by
    have := Cx.R_unit.1 h
    subst this; trivial
  | .val (.box t) :: ps, vs, y, hc, h => by
    simp only [List.all_cons, Bool.and_eq_true] at hc
    obtain ⟨c1, c2, rfl, h2, h3, h4⟩ := Cx.R_pair.1 h
    have h2 : c1.length = 1 := h2
    match c1, h2 with
    | [v], _ => exact ⟨⟨[v], rfl, h3⟩, caps_ok ps c2 y.2 hc.2 h4⟩
  | .io _ _ :: ps, vs, y, hc, h => by simp [PK.isCap] at hc
  | .fn _ _ :: ps, vs, y, hc, h => by simp [PK.isCap] at hc
  | .own _ _ :: ps, vs, y, hc, h => by simp [PK.isCap] at hc
  | .val (.int _) :: ps, vs, y, hc, h => by simp [PK.isCap] at hc
  | .val .bool :: ps, vs, y, hc, h => by simp [PK.isCap] at hc
  | .val .str :: ps, vs, y, hc, h => by simp [PK.isCap] at hc
  | .val (.slice _ _) :: ps, vs, y, hc, h => by simp [PK.isCap] at hc
  | .val (.pair _ _) :: ps, vs, y, hc, h => by simp [PK.isCap] at hc
  | .val (.agg _) :: ps, vs, y, hc, h => by simp [PK.isCap] at hc
  | .val (.ptr _) :: ps, vs, y, hc, h => by simp [PK.isCap] at hc
  | .val (.named _) :: ps, vs, y, hc, h => by simp [PK.isCap] at hc
  | .val .unit :: ps, vs, y, hc, h => by simp [PK.isCap] at hc
  | .val (.arr _ _) :: ps, vs, y, hc, h => by simp [PK.isCap] at hc
  | .val (.clo _ _) :: ps, vs, y, hc, h => by simp [PK.isCap] at hc
theorem packC_ok (ok : S.Ok) {E : Env S} {fz : Bool} {u : Ty} {y : S.den u} {vs : List Value} : ∀ (ps : List PK) (xs : List Operand) (ts : List Nat) (own : Nat → Option Own) (st st' : ST S) (z : S.den (packTy (argT ps))), Rel g own st a w →
    S.R w (g.Z own w) u vs y → packC E fz u y ps xs ts st = some (z, st') → ∃ own', Rel g own' st' a w ∧ Lasts own own' ∧ ValsR S w (argZ g fz own' w) ps (xs.map a.eval ++ vs) z
  | ps, [], _, own, st, st', z, h, hy, hp => by
    have hp' : (match ps.all PK.isCap with
      | true => match S.cast u (packTy (argT ps)) y with
        | some z => some (z, st)
        | none => none
      | false => none) = some (z, st') := by
      rw [← hp]; cases ps <;> rfl
    clear hp
    split at hp'
    · rename_i hc
      split at hp'
      · rename_i z' hz
        cases hp'
        obtain ⟨ht, rfl⟩ := cast_some hz
        subst ht
        exact ⟨own, h, .refl, caps_ok ps vs _ hc (hy.frame (fun b hb => Z_argZ hb) (fun _ _ => rfl))⟩
      · cases hp'
    · cases hp'
  | p :: ps, x :: xs, ts, own, st, st', z, h, hy, hp => by
    simp only [packC] at hp
    split at hp
    · rename_i y1 st1 h1
      split at hp
      · rename_i y2 st2 h2
        cases hp
        obtain ⟨own1, k1, k2, k3⟩ := packOne_ok ok h h1
        obtain ⟨own2, j1, j2, j3⟩ := packC_ok ok ps xs ts.tail own1 st1 _ y2 k1 (hy.frame (fun b hb => k2.Z hb) (fun _ _ => rfl)) h2
        exact ⟨own2, j1, k2.trans j2, ValsR.one_mono (fun b hb => argZ_mono j2 hb) k3, j3⟩
      · cases hp
    · cases hp
  | [], _ :: _, _, _, _, _, _, _, _, hp => by simp [packC] at hp
theorem vals_args {w : World} {Z : Nat → Prop} {own : Nat → Option Own} : ∀ (ps : List PK) (i : Nat) (vs : List Value) (y : S.den (packTy (argT ps))), ps.any PK.isIo = false → ValsR S w Z ps vs y → ArgsR S w Z own i ps vs y
  | [], _, [], _, _, _ => trivial
  | .val t :: ps, i, v :: vs, y, hio, h => ⟨h.1, vals_args ps (i + 1) vs y.2 (by simp only [List.any_cons, Bool.or_eq_false_iff] at hio; exact hio.2) h.2⟩
  | .fn _ _ :: ps, i, v :: vs, y, hio, h => ⟨h.1, vals_args ps (i + 1) vs y.2 (by simp only [List.any_cons, Bool.or_eq_false_iff] at hio; exact hio.2) h.2⟩
  | .io _ _ :: ps, i, v :: vs, y, hio, h => by simp [PK.isIo] at hio
  | .own _ _ :: ps, i, v :: vs, y, hio, h => by simp [PK.isIo] at hio
  | [], _, _ :: _, _, _, h => h.elim
  | .val _ :: _, _, [], _, _, h => h.elim
  | .io _ _ :: _, _, [], _, _, h => h.elim
  | .fn _ _ :: _, _, [], _, _, h => h.elim
  | .own _ _ :: _, _, [], _, _, h => h.elim
theorem vals_len {w : World} {Z : Nat → Prop} : ∀ (ps : List PK) (vs : List Value) (y : S.den (packTy (argT ps))), ValsR S w Z ps vs y → vs.length = ps.length
  | [], [], _, _ => rfl
  | p :: ps, v :: vs, y, h => by simp [vals_len ps vs y.2 h.2]
  | [], _ :: _, _, h => h.elim
  | _ :: _, [], _, h => h.elim
theorem resolve_clo {P : Program} {o : Oper} {c : Call} {s f : Nat} {vs : List Value} (ho : o.op = .call c) (hc : c.callee = .value (.tmp s)) (hs : a.tmps.getD s undef = .func (.func f) #[] vs.toArray) :
    execOp a.eval o = callFunc f (c.args.map a.eval ++ vs.toArray) := by
  have e : a.eval (.tmp s) = .func (.func f) #[] vs.toArray := hs
  simp only [execOp, ho, resolve, hc, e, Deferred.ofValue, pure_bind, invoke]
  simp
theorem do_callC {o : Oper} {c : Call} {s : Nat} {hn : Hint} {κ : ST S → Option α} {r : α} (ok : S.Ok) (hfs : ∀ f F, g.E.fs f = some F → FnOk g.P F f) (hpin : ∀ d, d < a.tmps.size → g.pin d = none) (h : Rel g own st a w) (hd : ∀ d, o.dst = some d → d < a.tmps.size)
    (ho : o.op = .call c) (hc : c.callee = .value (.tmp s)) (hκ : opK g.E hn o st κ = some r) : Do g (keepsOp g.E o) o a w κ r := by
  simp only [opK, ho, hc] at hκ
  split at hκ
  · rename_i f u m y hs
    split at hκ
    · have hvs := h.vals s
      rw [hs] at hvs
      obtain ⟨cs0, hVS0, hR0⟩ := TR_ro.1 hvs
      obtain ⟨vs, hcs, hRu⟩ := Cx.R_clo.1 hR0
      have hval : a.tmps.getD s undef = .func (.func f) #[] vs.toArray := by
        have e : cs0 = [a.tmps.getD s undef] := hVS0
        rw [e] at hcs
        exact (List.cons.inj hcs).1
      unfold callC at hκ
      split at hκ
      · cases hκ
      · rename_i F hF
        split at hκ
        · cases hκ
        rename_i hFo
        have hok := (hfs f F hF).zero hFo
        split at hκ
        · cases hκ
        · rename_i hio
          obtain ⟨hio, hfn⟩ := Bool.or_eq_false_iff.1 hio
          split at hκ
          · cases hκ
          · rename_i x st1 hpack
            obtain ⟨res, hf, hk2⟩ := bindR_some hκ
            obtain ⟨own1, h1, hL, hV⟩ := packC_ok ok F.ps c.args.toList c.argTypes.toList own st st1 x h hRu hpack
            generalize hZd : argZ g (!F.apart) own1 w = Z at *
            have hArgs : ArgsR S w Z (fun _ => none) ioBase F.ps (c.args.toList.map a.eval ++ vs) x := vals_args F.ps ioBase _ x hio hV
            have hent := hok w Z (fun _ => none) _ x res (fun b hb => by
                rw [← hZd] at hb
                cases hna : F.apart
                · rw [hna] at hb
                  have hb : g.Z own1 w b := hb
                  exact ⟨hb.2.1, rfl⟩
                · rw [hna] at hb
                  have hb : g.A w b := hb
                  exact ⟨hb.2, rfl⟩) (fun b hb => absurd rfl hb) (by rw [flatV_none _ _ hfn (vals_len _ _ _ hV)]; exact hArgs) (h1.glob.frame (fun b hb => by rw [← hZd]; exact Z_argZ hb) (fun _ _ => rfl)) hf
            have hxa : (c.args.toList.map a.eval ++ vs).toArray = c.args.map a.eval ++ vs.toArray := by apply Array.ext'; simp
            rw [hxa] at hent
            refine do_entersC (resolve_clo (P := g.P) ho hc hval) (Enters.mono hent fun v w' hres => ?_)
            obtain ⟨ownC', hleft, hR, _⟩ := hres
            have hlt1 : ∀ b, own1 b ≠ none → b < w.heap.size := fun b hb => (h1.fresh b hb).2
            have cNone : ∀ b, b < w.heap.size → ownC' b = none := fun b hb => by
              cases e : ownC' b with
              | none => rfl
              | some _ =>
                rcases (hleft.own b (by rw [e]; simp)).2 with h' | h'
                · omega
                · exact absurd rfl h'
            let own2 := ownOut [] [] own1 ownC'
            have hown2 : ∀ b, ownC' b = none → own2 b = own1 b := fun b hb => by
              show ownOut [] [] own1 ownC' b = own1 b
              rw [ownOut_none hb]
              have : ownIn [] own1 b = none := by
                cases e : ownIn [] own1 b with
                | none => rfl
                | some rl =>
                  obtain ⟨k, i, _, e2, _⟩ := ownIn_inv (r := rl.1) (l := rl.2) e
                  cases e2
              rw [if_pos this]
            have hZ2 : F.apart = false → ∀ b, zoneOf Z (fun _ => none) ownC' w w' b → g.Z own2 w' b := fun hna b hb => by
              obtain ⟨hb1, hb2, hb3⟩ := hb
              have e2 := hown2 b hb3
              rcases hb1 with hb1 | hb1 | hb1
              · have : g.Z own1 w b := by
                  rw [← hZd, hna] at hb1; exact hb1
                exact ⟨this.1, hb2, by rw [e2]; exact this.2.2⟩
              · have hn1 : own1 b = none := by
                  cases e : own1 b with
                  | none => rfl
                  | some _ => have := hlt1 b (by rw [e]; simp); omega
                exact ⟨.inr (.inl (Nat.le_trans h1.size hb1)), hb2, by rw [e2]; exact hn1⟩
              · exact absurd rfl hb1
            have hkeep : Below w.heap.size w w' := ⟨hleft.os, hleft.tape, hleft.output, hleft.size, fun b hb => hleft.block b hb rfl⟩
            have hrel : Rel g own2 st1 a w' := by
              refine h1.call ok (ks := []) (kd := fun _ => False) ⟨fun i => .inr ⟨rfl, fun e => e.elim (fun e => absurd rfl e) (fun ⟨_, e⟩ => e.elim), fun k hk => by cases hk⟩, fun r _ => rfl⟩ (fun _ h => h.elim) hleft.os hleft.tape hleft.output hleft.size (fun b hb _ => ⟨hleft.block b hb rfl, hown2 b (cNone b hb)⟩) (fun b hb => ?_) (fun k b _ hb => ?_) (fun k c' hk => by cases hk) (fun k hk => by cases hk)
              · by_cases hcb : ownC' b = none
                · have : own1 b ≠ none := fun e => by rw [hown2 b hcb] at hb; exact hb e
                  exact Nat.lt_of_lt_of_le (hlt1 b this) hleft.size
                · exact (hleft.own b hcb).1
              · rcases ownOut_inv hb with ⟨i, _, hp⟩ | ⟨_, _, e⟩
                · cases hp
                · exact ⟨hlt1 b (by rw [e]; simp), fun k l hk => hk.elim (fun hk => by cases hk) (fun hk => hk.elim)⟩
            cases hdst : o.dst with
            | none =>
              rw [hdst] at hk2
              exact ⟨own2, st1, hrel, hk2, fun _ => hkeep⟩
            | some d =>
              rw [hdst] at hk2
              have hdl := hd d hdst
              simp only [putRes] at hk2
              unfold ResR at hR
              split at hR
              · rename_i h0
                rw [h0] at hk2
                exact ⟨own2, _, hrel.put hn hdl (x := .dead) trivial, hk2, fun _ => hkeep⟩
              · rename_i h0
                rw [h0] at hk2
                have hR2 : Res1 S w' (g.Z own2 w') own2 F.rt F.rm v res.1 := by
                  cases ha : F.apart with
                  | false => exact hR.frame (hZ2 ha) (fun b q hb => ownOut_lim hb)
                  | true =>
                    simp only [FSpec.apart, Bool.and_eq_true] at ha
                    exact res_apart ha.1.1 ha.1.2 hR
                obtain ⟨own3, h3⟩ := put_res hrel hn (hpin d hdl) hdl hR2
                exact ⟨own3, _, h3, hk2, fun _ => hkeep⟩
              · rename_i n0 n1
                obtain ⟨vs', rfl, hT⟩ := hR
                have hT2 : TupR w' (g.Z own2 w') F.rt res.1 vs'.toList := by
                  cases ha : F.apart with
                  | false => exact TupR_frame (hZ2 ha) (fun _ _ => rfl) _ _ _ hT
                  | true =>
                    simp only [FSpec.apart, Bool.and_eq_true] at ha
                    exact scalar_TupR _ _ _ ha.1.1 hT
                have hκ' : κ (st1.put hn d (.tup F.rt F.rm res.1)) = some r := by
                  match hnr : F.nres, n0, n1 with
                  | 0, n0, _ => exact absurd rfl n0
                  | 1, _, n1 => exact absurd rfl n1
                  | n + 2, _, _ => rw [hnr] at hk2; exact hk2
                exact ⟨own2, _, hrel.put hn hdl (x := .tup F.rt F.rm res.1) ⟨vs', rfl, hT2⟩, hκ', fun _ => hkeep⟩
    · cases hκ
  · rename_i f cs hs
    have hvs := h.vals s
    rw [hs] at hvs
    obtain ⟨vs, h1, h2⟩ := hvs
    unfold callF at hκ
    split at hκ
    · rename_i hwr
      split at hκ
      · cases hκ
      · rename_i F hF
        split at hκ
        · cases hκ
        · rename_i hFo
          refine do_callS ok ((hfs f F hF).zero hFo) hpin h hd (xs := c.args.toList) (ts := c.argTypes.toList) (tl := capsS (.tmp s) cs.length) ?_ (fun hk => ?_) hκ
          · rw [resolve_clo (P := g.P) ho hc h1, h2.len, capsS_ev h1]
            congr 1
            simp
          · simp only [keepsOp, ho, hc, hwr, Bool.not_true] at hk
            cases hk
    · cases hκ
  · cases hκ
end
end Go.Proofs.Ytdnkjfmneppkoaa.Vm