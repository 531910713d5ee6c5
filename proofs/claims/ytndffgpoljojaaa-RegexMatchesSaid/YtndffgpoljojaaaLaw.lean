/- The plain laws of expressions. -/
import Derived.Test.YtndffgpoljojaaaVm3
import Derived.Test.YtndffgpoljojaaaFns2
import Derived.KernelRfl
namespace Go.Proofs.Ytndffgpoljojaaa.Vm
open Go
section
variable {α β : Type}
@[simp] theorem iteB_true (a b : Option α) : iteB true a b = a := rfl
@[simp] theorem iteB_false (a b : Option α) : iteB false a b = b := rfl
@[simp] theorem mustR_true (κ : Option α) : mustR true κ = κ := rfl
@[simp] theorem bindR_val (y : β) (κ : β → Option α) : bindR (some y) κ = κ y := rfl
theorem iteB_pos {c : Bool} (h : c = true) (a b : Option α) : iteB c a b = a := by subst h; rfl
theorem iteB_neg {c : Bool} (h : c = false) (a b : Option α) : iteB c a b = b := by subst h; rfl
theorem iteB_dec {p : Prop} [Decidable p] (a b : Option α) : iteB (decide p) a b = if p then a else b := by
  by_cases h : p
  · rw [if_pos h]; exact iteB_pos (decide_eq_true h) a b
  · rw [if_neg h]; exact iteB_neg (decide_eq_false h) a b
theorem mustR_pos {c : Bool} (h : c = true) (κ : Option α) : mustR c κ = κ := by subst h; rfl
theorem mustR_dec {p : Prop} [Decidable p] (h : p) (κ : Option α) : mustR (decide p) κ = κ := mustR_pos (decide_eq_true h) κ
theorem withinR_nat {i n : Nat} (h : i < n) (κ : Nat → Option α) : withinR (i : Int) n κ = κ i := by
  unfold withinR
  rw [mustR_dec (by omega), mustR_dec (by omega)]; rfl
theorem withinR_zero {n : Nat} (h : 0 < n) (κ : Nat → Option α) : withinR 0 n κ = κ 0 := withinR_nat (i := 0) h κ
@[simp] theorem notB_true : notB true = false := rfl
@[simp] theorem notB_false : notB false = true := rfl
theorem w64_id {n : Int} (h0 : -9223372036854775808 ≤ n) (h1 : n < 9223372036854775808) : w64 n = n := by
  simp [w64, IntKind.wrap, IntKind.bits, IntKind.signed]; omega
theorem w8_id {n : Int} (h0 : 0 ≤ n) (h1 : n < 256) : w8 n = n := by
  simp [w8, IntKind.wrap, IntKind.bits, IntKind.signed]; omega
theorem bits_nat (x : Nat) (h : x < 18446744073709551616) : (BitVec.ofInt 64 (x : Int)).toNat = x := by
  rw [BitVec.toNat_ofInt]
  omega
end
end Go.Proofs.Ytndffgpoljojaaa.Vm
namespace Go.Proofs.Ytndffgpoljojaaa.Vm.Rx
open Go Go.Proofs.Ytndffgpoljojaaa.Vm
set_option linter.unusedVariables false
set_option maxRecDepth 100000
theorem w64_succ {i : Nat} (h : i < 4611686018427387904) : w64 ((i : Int) + 1) = ((i + 1 : Nat) : Int) := by
  rw [w64_id (by omega) (by omega)]; omega
theorem loopUp {σ α : Type} {N : Nat} (F : Nat → σ → Int → Option α) (E : σ → Option α) (Inv : Nat → σ → Prop) (hN : N < 4611686018427387903)
    (hstep : ∀ n (i : Nat) s, i < N → Inv i s → ∃ s', Inv (i + 1) s' ∧ F (n + 1) s (i : Int) = F n s' (w64 ((i : Int) + 1)))
    (hend : ∀ n s, Inv N s → F (n + 1) s (N : Int) = E s) : ∀ (d n i : Nat) s, i + d = N → d < n → Inv i s → ∃ s', Inv N s' ∧ F n s (i : Int) = E s'
  | 0, n + 1, i, s, hi, _, h => by
    have : i = N := by omega
    subst this
    exact ⟨s, h, hend n s h⟩
  | d + 1, n + 1, i, s, hi, hn, h => by
    obtain ⟨s1, h1, h2⟩ := hstep n i s (by omega) h
    obtain ⟨s2, h3, h4⟩ := loopUp F E Inv hN hstep hend d n (i + 1) s1 (by omega) (by omega) h1
    exact ⟨s2, h3, by rw [h2, w64_succ (by omega)]; exact h4⟩
  | _, 0, _, _, _, hn, _ => by omega
theorem loopAll {σ α : Type} {N : Nat} (F : Nat → σ → Int → Option α) (E : σ → Option α) (Inv : Nat → σ → Prop) (s : σ) (i : Nat) (hi : i ≤ N) (h0 : Inv i s) (hN : N < 4611686018427387903)
    (hstep : ∀ n (i : Nat) s, i < N → Inv i s → ∃ s', Inv (i + 1) s' ∧ F (n + 1) s (i : Int) = F n s' (w64 ((i : Int) + 1)))
    (hend : ∀ n s, Inv N s → F (n + 1) s (N : Int) = E s) : ∃ s', Inv N s' ∧ F fuel s (i : Int) = E s' :=
  loopUp F E Inv hN hstep hend (N - i) fuel i s (by omega) (show N - i < 4611686018427387904 by omega) h0
theorem getD_set {β : Type} (l : List β) (i k : Nat) (a d : β) (h : i < l.length) : (l.set i a).getD k d = if k = i then a else l.getD k d := by
  rw [List.getD_eq_getElem?_getD, List.getElem?_set]
  by_cases e : i = k
  · subst e; simp [h]
  · rw [if_neg e, if_neg (fun h => e h.symm), List.getD_eq_getElem?_getD]
structure Ro (r : List Bool) (N : Nat) (g : Nat → Prop) : Prop where
  len : r.length = N
  val : ∀ j, j < N → (r.getD j false = true ↔ g j)
theorem Ro.set {r : List Bool} {N : Nat} {g : Nat → Prop} (h : Ro r N g) {j : Nat} (hj : j < N) (b : Bool) : Ro (r.set j b) N (fun c => if c = j then b = true else g c) :=
  ⟨by rw [List.length_set]; exact h.len, fun c hc => by
    rw [getD_set _ _ _ _ _ (by rw [h.len]; exact hj)]
    by_cases e : c = j
    · rw [if_pos e, if_pos e]
    · rw [if_neg e, if_neg e]; exact h.val c hc⟩
theorem Ro.to {r : List Bool} {N : Nat} {g g' : Nat → Prop} (h : Ro r N g) (e : ∀ j, j < N → (g j ↔ g' j)) : Ro r N g' := ⟨h.len, fun j hj => (h.val j hj).trans (e j hj)⟩
theorem Ro.repl (N : Nat) : Ro (List.replicate N false) N (fun _ => False) := ⟨List.length_replicate, fun j hj => by simp [List.getD_eq_getElem?_getD, hj]⟩
structure Is (M : List (List Bool)) (N : Nat) (f : Nat → Nat → Prop) : Prop where
  len : M.length = N
  row : ∀ i, i < N → Ro (M.getD i []) N (f i)
theorem Is.to {M : List (List Bool)} {N : Nat} {f f' : Nat → Nat → Prop} (h : Is M N f) (e : ∀ i j, i < N → j < N → (f i j ↔ f' i j)) : Is M N f' := ⟨h.len, fun i hi => (h.row i hi).to fun j hj => e i j hi hj⟩
theorem Is.setRow {M : List (List Bool)} {N : Nat} {f : Nat → Nat → Prop} (h : Is M N f) {i : Nat} (hi : i < N) {r : List Bool} {g : Nat → Prop} (hr : Ro r N g) : Is (M.set i r) N (fun a c => if a = i then g c else f a c) :=
  ⟨by rw [List.length_set]; exact h.len, fun a ha => by
    rw [getD_set _ _ _ _ _ (by rw [h.len]; exact hi)]
    by_cases e : a = i
    · simp only [if_pos e]; exact hr
    · simp only [if_neg e]; exact h.row a ha⟩
theorem Is.set {M : List (List Bool)} {N : Nat} {f : Nat → Nat → Prop} (h : Is M N f) {i j : Nat} (hi : i < N) (hj : j < N) (b : Bool) :
    Is (M.set i ((M.getD i []).set j b)) N (fun a c => if a = i ∧ c = j then b = true else f a c) :=
  (h.setRow hi ((h.row i hi).set hj b)).to fun a c ha hc => by
    by_cases e : a = i
    · subst e
      by_cases e2 : c = j
      · simp [e2]
      · simp [e2]
    · simp [e]
theorem Is.val {M : List (List Bool)} {N : Nat} {f : Nat → Nat → Prop} (h : Is M N f) {i j : Nat} (hi : i < N) (hj : j < N) : (M.getD i []).getD j false = true ↔ f i j := (h.row i hi).val j hj
theorem Is.rlen {M : List (List Bool)} {N : Nat} {f : Nat → Nat → Prop} (h : Is M N f) {i : Nat} (hi : i < N) : (M.getD i []).length = N := (h.row i hi).len
theorem lt_dec {a b : Nat} (h : a < b) : decide ((a : Int) < (b : Int)) = true := decide_eq_true (by omega)
theorem lt_no {a : Nat} : decide ((a : Int) < (a : Int)) = false := decide_eq_false (by omega)
theorem put_eq {x0 x6 : List Bool} {N : Nat} {g h : Nat → Prop} (h0 : Ro x0 N g) (h6 : Ro x6 N h) (hN : N < 1000) : ∃ r, s_regex_places_put (x0, (x6, ())) = some r ∧ Ro r N (fun j => g j ∨ h j) := by
  have e : s_regex_places_put (x0, (x6, ())) = regex_places_put.p1 fuel fuel x0 x6 ((x6.length : Nat) : Int) ((0 : Nat) : Int) := rfl
  rw [e, h6.len]
  obtain ⟨r, hr, e⟩ := loopAll (N := N) (fun n s i => regex_places_put.p1 fuel n s x6 (N : Int) i) some (fun i s => Ro s N (fun j => g j ∨ j < i ∧ h j)) x0 0 (Nat.zero_le _) (h0.to fun j _ => by simp) (by omega)
    (fun n i s hi hs => by
      have e1 : regex_places_put.p1 fuel (n + 1) s x6 (N : Int) (i : Int) = regex_places_put.t1 (regex_places_put.t2 (regex_places_put.p1 fuel n)) s x6 (N : Int) (i : Int) := rfl
      unfold regex_places_put.t1 regex_places_put.t2 at e1
      have hv := hs.val i hi
      rw [iteB_pos (lt_dec hi), withinR_nat (by rw [h6.len]; exact hi), withinR_nat (by rw [hs.len]; exact hi), withinR_nat (by rw [hs.len]; exact hi), withinR_nat (by rw [hs.len]; exact hi)] at e1
      have key : ∀ b, (b = true ↔ g i ∨ h i) → Ro (s.set i b) N (fun j => g j ∨ j < i + 1 ∧ h j) := fun b hb => (hs.set hi b).to fun j hj => by
        by_cases ej : j = i
        · subst ej; rw [if_pos rfl, hb]; simp
        · have : j < i + 1 ↔ j < i := by omega
          rw [if_neg ej, this]
      cases hg : s.getD i false with
      | true =>
        rw [hg, iteB_true] at e1
        rw [hg] at hv
        have := hv.1 rfl
        exact ⟨_, key true (by simp; rcases this with k | k; exact .inl k; exact .inr k.2), e1⟩
      | false =>
        rw [hg, iteB_false] at e1
        rw [hg] at hv
        have hn : ¬ g i := fun k => by have := hv.2 (.inl k); cases this
        exact ⟨_, key _ ((h6.val i hi).trans ⟨.inr, fun k => k.resolve_left hn⟩), e1⟩)
    (fun n s hs => by
      have e1 : regex_places_put.p1 fuel (n + 1) s x6 (N : Int) (N : Int) = regex_places_put.t1 (regex_places_put.t2 (regex_places_put.p1 fuel n)) s x6 (N : Int) (N : Int) := rfl
      unfold regex_places_put.t1 at e1
      rw [e1, iteB_neg lt_no])
  exact ⟨r, e, hr.to fun j hj => by simp [hj]⟩
theorem none_eq {L : Nat} (hL : L < 900) : ∃ M, s_regex_none ((L : Int), ()) = some (M, ()) ∧ Is M (L + 1) (fun _ _ => False) := by
  have hw : w64 ((L : Int) + 1) = ((L + 1 : Nat) : Int) := w64_succ (by omega)
  have e : s_regex_none ((L : Int), ()) = regex_none.t0 (regex_none.p1 fuel fuel) ((L : Int), ()) := rfl
  unfold regex_none.t0 at e
  rw [e]
  simp only
  rw [hw, mustR_dec ⟨trivial, by omega, by omega⟩, List.length_replicate, show Int.toNat ((L + 1 : Nat) : Int) = L + 1 by omega]
  obtain ⟨M, hM, e⟩ := loopAll (N := L + 1) (fun n s i => regex_none.p1 fuel n (L : Int) s ((L + 1 : Nat) : Int) i) (fun s => some (s, ())) (fun i s => s.length = L + 1 ∧ ∀ a, a < i → Ro (s.getD a []) (L + 1) (fun _ => False)) (List.replicate (L + 1) []) 0 (Nat.zero_le _) ⟨List.length_replicate, fun a ha => by omega⟩ (by omega)
    (fun n i s hi hs => by
      have e1 : regex_none.p1 fuel (n + 1) (L : Int) s ((L + 1 : Nat) : Int) (i : Int) = regex_none.t1 (regex_none.p1 fuel n) regex_none.t2 (L : Int) s ((L + 1 : Nat) : Int) (i : Int) := rfl
      unfold regex_none.t1 at e1
      rw [iteB_pos (lt_dec hi), hw, mustR_dec ⟨rfl, by omega, by omega⟩, withinR_nat (by rw [hs.1]; exact hi), show Int.toNat ((L + 1 : Nat) : Int) = L + 1 by omega] at e1
      refine ⟨_, ⟨by rw [List.length_set]; exact hs.1, fun a ha => ?_⟩, e1⟩
      rw [getD_set _ _ _ _ _ (by rw [hs.1]; exact hi)]
      by_cases ea : a = i
      · rw [if_pos ea]; exact Ro.repl _
      · rw [if_neg ea]; exact hs.2 a (by omega))
    (fun n s hs => by
      have e1 : regex_none.p1 fuel (n + 1) (L : Int) s ((L + 1 : Nat) : Int) ((L + 1 : Nat) : Int) = regex_none.t1 (regex_none.p1 fuel n) regex_none.t2 (L : Int) s ((L + 1 : Nat) : Int) ((L + 1 : Nat) : Int) := rfl
      unfold regex_none.t1 at e1
      rw [e1, iteB_neg lt_no]; rfl)
  exact ⟨M, e, hM.1, fun i hi => hM.2 i hi⟩
theorem nothing_eq {L : Nat} (hL : L < 900) : ∃ M, s_regex_nothing ((L : Int), ()) = some (M, ()) ∧ Is M (L + 1) (fun i j => i = j) := by
  obtain ⟨M0, e0, h0⟩ := none_eq hL
  have e : s_regex_nothing ((L : Int), ()) = bindR (s_regex_none ((L : Int), ())) fun r1 => regex_nothing.p1 fuel fuel r1.1 ((List.length r1.1 : Nat) : Int) ((0 : Nat) : Int) := rfl
  rw [e, e0, bindR_val]
  simp only [h0.len]
  obtain ⟨M, hM, e⟩ := loopAll (N := L + 1) (fun n s i => regex_nothing.p1 fuel n s ((L + 1 : Nat) : Int) i) (fun s => some (s, ())) (fun i s => Is s (L + 1) (fun a c => a = c ∧ a < i)) M0 0 (Nat.zero_le _) (h0.to fun a c _ _ => by simp) (by omega)
    (fun n i s hi hs => by
      have e1 : regex_nothing.p1 fuel (n + 1) s ((L + 1 : Nat) : Int) (i : Int) = regex_nothing.t1 (regex_nothing.p1 fuel n) regex_nothing.t2 s ((L + 1 : Nat) : Int) (i : Int) := rfl
      unfold regex_nothing.t1 at e1
      rw [iteB_pos (lt_dec hi), withinR_nat (by rw [hs.len]; exact hi), withinR_nat (by rw [hs.rlen hi]; exact hi)] at e1
      refine ⟨_, (hs.set hi hi true).to fun a c ha hc => ?_, e1⟩
      by_cases ea : a = i ∧ c = i
      · rw [if_pos ea]; obtain ⟨rfl, rfl⟩ := ea; simp
      · rw [if_neg ea]; omega)
    (fun n s hs => by
      have e1 : regex_nothing.p1 fuel (n + 1) s ((L + 1 : Nat) : Int) ((L + 1 : Nat) : Int) = regex_nothing.t1 (regex_nothing.p1 fuel n) regex_nothing.t2 s ((L + 1 : Nat) : Int) ((L + 1 : Nat) : Int) := rfl
      unfold regex_nothing.t1 at e1
      rw [e1, iteB_neg lt_no]; rfl)
  exact ⟨M, e, hM.to fun i j hi hj => by simp only [hi, and_true]⟩
theorem w64_pred {N : Nat} (h0 : 0 < N) (h : N < 1000) : w64 ((N : Int) - 1) = ((N - 1 : Nat) : Int) := by
  rw [w64_id (by omega) (by omega)]; omega
def comp (N : Nat) (f g : Nat → Nat → Prop) (a c : Nat) : Prop := ∃ k, k < N ∧ f a k ∧ g k c
theorem then_eq {x y : List (List Bool)} {N : Nat} {f g : Nat → Nat → Prop} (hx : Is x N f) (hy : Is y N g) (h0 : 0 < N) (hN : N < 900) : ∃ M, s_regex_spans_then (x, (y, ())) = some (M, ()) ∧ Is M N (comp N f g) := by
  obtain ⟨M0, e0, hM0⟩ := none_eq (L := N - 1) (by omega)
  rw [show N - 1 + 1 = N by omega] at hM0
  have e : s_regex_spans_then (x, (y, ())) = bindR (s_regex_none (w64 (((x.length : Nat) : Int) - 1), ())) fun r1 => regex_spans_then.p1 fuel fuel y r1.1 x ((x.length : Nat) : Int) ((0 : Nat) : Int) := rfl
  rw [e, hx.len, w64_pred h0 (by omega), e0, bindR_val]
  obtain ⟨M, hM, e⟩ := loopAll (N := N) (fun n s i => regex_spans_then.p1 fuel n y s x (N : Int) i) (fun s => some (s, ())) (fun i s => Is s N (fun a c => a < i ∧ comp N f g a c)) M0 0 (Nat.zero_le _) (hM0.to fun a c _ _ => by simp) (by omega)
    (fun n i s hi hs => by
      have e1 : regex_spans_then.p1 fuel (n + 1) y s x (N : Int) (i : Int) = regex_spans_then.t1 (regex_spans_then.p2 fuel (regex_spans_then.p1 fuel n) fuel) regex_spans_then.t3 y s x (N : Int) (i : Int) := rfl
      unfold regex_spans_then.t1 at e1
      rw [iteB_pos (lt_dec hi), withinR_nat (by rw [hx.len]; exact hi), hx.rlen hi] at e1
      obtain ⟨s', hs', e2⟩ := loopAll (N := N) (fun m s k => regex_spans_then.p2 fuel (regex_spans_then.p1 fuel n) m y s (i : Int) x (N : Int) (i : Int) (x.getD i []) (N : Int) k) (fun s => regex_spans_then.p1 fuel n y s x (N : Int) (w64 ((i : Int) + 1)))
        (fun k s => Is s N (fun a c => a < i ∧ comp N f g a c ∨ a = i ∧ ∃ l, l < k ∧ f a l ∧ g l c)) s 0 (Nat.zero_le _) (hs.to fun a c _ _ => by simp) (by omega)
        (fun m k s hk hs => by
          have e3 : regex_spans_then.p2 fuel (regex_spans_then.p1 fuel n) (m + 1) y s (i : Int) x (N : Int) (i : Int) (x.getD i []) (N : Int) (k : Int) = regex_spans_then.t2 (regex_spans_then.t4 (regex_spans_then.p2 fuel (regex_spans_then.p1 fuel n) m)) (regex_spans_then.t5 (regex_spans_then.p1 fuel n)) y s (i : Int) x (N : Int) (i : Int) (x.getD i []) (N : Int) (k : Int) := rfl
          unfold regex_spans_then.t2 regex_spans_then.t4 at e3
          rw [iteB_pos (lt_dec hk), withinR_nat (by rw [hx.rlen hi]; exact hk), withinR_nat (by rw [hs.len]; exact hi), withinR_nat (by rw [hy.len]; exact hk)] at e3
          obtain ⟨r, er, hr⟩ := put_eq (hs.row i hi) (hy.row k hk) (by omega)
          rw [er, bindR_val] at e3
          have hv := hx.val hi hk
          cases hb : (x.getD i []).getD k false with
          | true =>
            rw [hb, iteB_true] at e3
            refine ⟨_, (hs.setRow hi hr).to fun a c ha hc => ?_, e3⟩
            have hf := hv.1 hb
            by_cases ea : a = i
            · subst ea
              rw [if_pos rfl]
              constructor
              · rintro ((⟨h, _⟩ | ⟨_, l, h1, h2, h3⟩) | h)
                · omega
                · exact .inr ⟨rfl, l, by omega, h2, h3⟩
                · exact .inr ⟨rfl, k, by omega, hf, h⟩
              · rintro (⟨h, _⟩ | ⟨_, l, h1, h2, h3⟩)
                · omega
                · by_cases el : l = k
                  · subst el; exact .inr h3
                  · exact .inl (.inr ⟨rfl, l, by omega, h2, h3⟩)
            · simp [ea]
          | false =>
            rw [hb, iteB_false] at e3
            have hf : ¬ f i k := fun h => by have := hv.2 h; rw [hb] at this; cases this
            refine ⟨_, hs.to fun a c ha hc => ?_, e3⟩
            constructor
            · rintro (h | ⟨rfl, l, h1, h2⟩)
              · exact .inl h
              · exact .inr ⟨rfl, l, by omega, h2⟩
            · rintro (h | ⟨rfl, l, h1, h2, h3⟩)
              · exact .inl h
              · by_cases el : l = k
                · subst el; exact absurd h2 hf
                · exact .inr ⟨rfl, l, by omega, h2, h3⟩)
        (fun m s hs => by
          have e3 : regex_spans_then.p2 fuel (regex_spans_then.p1 fuel n) (m + 1) y s (i : Int) x (N : Int) (i : Int) (x.getD i []) (N : Int) (N : Int) = regex_spans_then.t2 (regex_spans_then.t4 (regex_spans_then.p2 fuel (regex_spans_then.p1 fuel n) m)) (regex_spans_then.t5 (regex_spans_then.p1 fuel n)) y s (i : Int) x (N : Int) (i : Int) (x.getD i []) (N : Int) (N : Int) := rfl
          unfold regex_spans_then.t2 at e3
          rw [e3, iteB_neg lt_no]; rfl)
      refine ⟨s', hs'.to fun a c ha hc => ?_, e1.trans e2⟩
      constructor
      · rintro (⟨h1, h2⟩ | ⟨rfl, h⟩)
        · exact ⟨by omega, h2⟩
        · exact ⟨by omega, h⟩
      · rintro ⟨h1, h2⟩
        by_cases ea : a = i
        · exact .inr ⟨ea, h2⟩
        · exact .inl ⟨by omega, h2⟩)
    (fun n s hs => by
      have e1 : regex_spans_then.p1 fuel (n + 1) y s x (N : Int) (N : Int) = regex_spans_then.t1 (regex_spans_then.p2 fuel (regex_spans_then.p1 fuel n) fuel) regex_spans_then.t3 y s x (N : Int) (N : Int) := rfl
      unfold regex_spans_then.t1 at e1
      rw [e1, iteB_neg lt_no]; rfl)
  exact ⟨M, e, hM.to fun i j hi hj => by simp only [hi, true_and]⟩
end Go.Proofs.Ytndffgpoljojaaa.Vm.Rx
namespace Go.Proofs.Ytndffgpoljojaaa.Vm.Rx
open Go Go.Proofs.Ytndffgpoljojaaa.Vm
set_option linter.unusedVariables false
set_option maxRecDepth 100000
theorem fuel_gt (n : Nat) (h : n < 1000000000000000) : n < fuel := by unfold fuel; omega
def V (s : List Int) : Prop := ∃ a b c d : Nat, s = [(a : Int), (b : Int), (c : Int), (d : Int)] ∧ a < 18446744073709551616 ∧ b < 18446744073709551616 ∧ c < 18446744073709551616 ∧ d < 18446744073709551616
def hs (s : List Int) (c : Nat) : Bool := (s.getD (c / 64) 0).toNat.testBit (c % 64)
theorem wrapU (n : Nat) (h : n < 18446744073709551616) : IntKind.wrap .u64 (n : Int) = (n : Int) := by
  simp [IntKind.wrap, IntKind.bits, IntKind.signed]; omega
theorem V.at {s : List Int} (h : V s) (i : Nat) (hi : i < 4) : ∃ x : Nat, s.getD i 0 = (x : Int) ∧ x < 18446744073709551616 := by
  obtain ⟨a, b, c, d, rfl, h1, h2, h3, h4⟩ := h
  match i, hi with
  | 0, _ => exact ⟨a, rfl, h1⟩
  | 1, _ => exact ⟨b, rfl, h2⟩
  | 2, _ => exact ⟨c, rfl, h3⟩
  | 3, _ => exact ⟨d, rfl, h4⟩
theorem has_p1 (k : Nat) (c : Nat) (hc : c < 256) : ∀ (m i x : Nat), 64 < m + i → i ≤ c % 64 → x < 18446744073709551616 →
    ref05_Has.p1 k m (c : Int) (x : Int) (i : Int) = some (decide (x / 2 ^ (c % 64 - i) % 2 = 1), ())
  | 0, i, x, h, hi, _ => by omega
  | m + 1, i, x, h, hi, hx => by
    have step : ref05_Has.p1 k (m + 1) (c : Int) (x : Int) (i : Int) = ref05_Has.t1 (ref05_Has.p1 k m) (ref05_Has.p2 k) (c : Int) (x : Int) (i : Int) := rfl
    rw [step]
    have e1 : Int.tmod (w64 (c : Int)) 64 = ((c % 64 : Nat) : Int) := by rw [w64_id (by omega) (by omega)]; rfl
    simp only [ref05_Has.t1, iteB_dec, e1]
    by_cases h1 : i < c % 64
    · rw [if_pos (by omega)]
      have e2 : Int.tdiv (x : Int) 2 = ((x / 2 : Nat) : Int) := rfl
      have wi : w64 ((i : Int) + 1) = ((i + 1 : Nat) : Int) := w64_id (by omega) (by omega)
      rw [e2, wrapU _ (by omega), wi, has_p1 k c hc m (i + 1) (x / 2) (by omega) (by omega) (by omega)]
      congr 2
      have : c % 64 - i = (c % 64 - (i + 1)) + 1 := by omega
      rw [this, Nat.pow_succ, Nat.mul_comm, Nat.div_div_eq_div_mul]
    · rw [if_neg (by omega)]
      have : c % 64 - i = 0 := by omega
      rw [this]
      show some (decide (Int.tmod (x : Int) 2 = 1), ()) = _
      have e3 : Int.tmod (x : Int) 2 = ((x % 2 : Nat) : Int) := rfl
      rw [e3, Nat.pow_zero, Nat.div_one]
      congr 2
      by_cases h2 : x % 2 = 1
      · rw [decide_eq_true (by omega), decide_eq_true h2]
      · rw [decide_eq_false (by omega), decide_eq_false h2]
theorem has_eq {s : List Int} (h : V s) (c : Nat) (hc : c < 256) : s_ref05_Has (s, ((c : Int), ())) = some (hs s c, ()) := by
  have st : s_ref05_Has (s, ((c : Int), ())) = ref05_Has.t0 (ref05_Has.p1 fuel fuel) (s, ((c : Int), ())) := rfl
  rw [st]
  have e1 : w64 (Int.tdiv (w64 (c : Int)) 64) = ((c / 64 : Nat) : Int) := by
    rw [w64_id (n := (c : Int)) (by omega) (by omega)]
    exact w64_id (n := ((c / 64 : Nat) : Int)) (by omega) (by omega)
  obtain ⟨x, hx, hxl⟩ := h.at (c / 64) (by omega)
  simp only [ref05_Has.t0, e1, withinR_nat (show c / 64 < 4 by omega), hx]
  have := has_p1 fuel c hc fuel 0 x (by have := fuel_gt 64 (by omega); omega) (by omega) hxl
  rw [Nat.sub_zero] at this
  refine this.trans ?_
  unfold hs
  rw [hx, Int.toNat_natCast, Nat.testBit_eq_decide_div_mod_eq]
abbrev Z : List Int := List.replicate 4 (0 : Int)
theorem tdiv64 (c : Nat) (hc : c < 256) : w8 (Int.tdiv (c : Int) 64) = ((c / 64 : Nat) : Int) := w8_id (n := ((c / 64 : Nat) : Int)) (by omega) (by omega)
theorem tmod64 (c : Nat) : Int.tmod (c : Int) 64 = ((c % 64 : Nat) : Int) := rfl
theorem shr_nat (x k : Nat) (hk : k < 64) : shrI .u64 (x : Int) (k : Int) = ((x / 2 ^ k : Nat) : Int) := by
  show (x : Int).fdiv (2 ^ min ((k : Int).toNat) 64) = _
  have : min ((k : Int).toNat) 64 = k := by omega
  rw [this, Int.fdiv_eq_ediv_of_nonneg _ (by exact Int.pow_nonneg (by omega))]
  norm_cast
theorem andI_nat (x y : Nat) (hx : x < 18446744073709551616) (hy : y < 18446744073709551616) : bitI .and .u64 (x : Int) (y : Int) = ((x &&& y : Nat) : Int) := by
  have hl : x &&& y ≤ x := Nat.and_le_left
  have e : bitI .and .u64 (x : Int) (y : Int) = IntKind.wrap .u64 (((BitVec.ofInt 64 (x : Int) &&& BitVec.ofInt 64 (y : Int)).toNat : Nat) : Int) := rfl
  rw [e, BitVec.toNat_and, bits_nat x hx, bits_nat y hy]
  exact wrapU _ (by omega)
theorem Has_eq {s : List Int} (h : V s) (c : Nat) (hc : c < 256) : s_bytesets_Has (s, ((c : Int), ())) = some (hs s c, ()) := by
  have st : s_bytesets_Has (s, ((c : Int), ())) = bytesets_Has.t0 (s, ((c : Int), ())) := rfl
  obtain ⟨x, hx, hxl⟩ := h.at (c / 64) (by omega)
  rw [st]
  simp only [bytesets_Has.t0, tdiv64 c hc, tmod64, withinR_nat (show c / 64 < 4 by omega), hx]
  rw [mustR_dec (by omega), shr_nat _ _ (by omega)]
  have hl : x / 2 ^ (c % 64) ≤ x := Nat.div_le_self ..
  rw [show (1 : Int) = ((1 : Nat) : Int) from rfl, andI_nat _ 1 (by omega) (by omega), Nat.and_one_is_mod]
  unfold hs
  rw [hx, Int.toNat_natCast, Nat.testBit_eq_decide_div_mod_eq]
  congr 2
  by_cases h2 : x / 2 ^ (c % 64) % 2 = 1
  · rw [decide_eq_true (by omega), decide_eq_true h2]
  · rw [decide_eq_false (by omega), decide_eq_false h2]
def By (l : List Int) : Prop := ∀ v ∈ l, 0 ≤ v ∧ v < 256
theorem By.at {l : List Int} (h : By l) (i : Nat) (hi : i < l.length) : ∃ c : Nat, c < 256 ∧ l.getD i 0 = (c : Int) ∧ l[i] = (c : Int) := by
  have := h _ (List.getElem_mem hi)
  exact ⟨l[i].toNat, by omega, by simp [hi]; omega, by omega⟩
end Go.Proofs.Ytndffgpoljojaaa.Vm.Rx
namespace Go.Proofs.Ytndffgpoljojaaa.Vm.Rx
open Go Go.Proofs.Ytndffgpoljojaaa.Vm
set_option linter.unusedVariables false
set_option maxRecDepth 100000
theorem loopDown {σ α : Type} {N : Nat} (F : Nat → σ → Int → Option α) (E : σ → Option α) (Inv : Nat → σ → Prop) (hN : N < 4611686018427387903)
    (hstep : ∀ n (i : Nat) s, i < N → Inv (i + 1) s → ∃ s', Inv i s' ∧ F (n + 1) s (i : Int) = F n s' (w64 ((i : Int) - 1)))
    (hend : ∀ n s, Inv 0 s → F (n + 1) s (-1) = E s) : ∀ (i n : Nat) s, i ≤ N → i < n → Inv i s → ∃ s', Inv 0 s' ∧ F n s (w64 ((i : Int) - 1)) = E s'
  | 0, n + 1, s, _, _, h => ⟨s, h, hend n s h⟩
  | i + 1, n + 1, s, hi, hn, h => by
    obtain ⟨s1, h1, h2⟩ := hstep n i s (by omega) h
    obtain ⟨s2, h3, h4⟩ := loopDown F E Inv hN hstep hend i n s1 (by omega) (by omega) h1
    refine ⟨s2, h3, ?_⟩
    have : w64 (((i + 1 : Nat) : Int) - 1) = (i : Int) := by rw [w64_id (by omega) (by omega)]; omega
    rw [this, h2]; exact h4
  | _, 0, _, _, hn, _ => by omega
inductive Reach (N : Nat) (f : Nat → Nat → Prop) : Nat → Nat → Prop where
  | refl (i : Nat) : Reach N f i i
  | step {i k c : Nat} : i < k → k < N → f i k → Reach N f k c → Reach N f i c
theorem Reach.iff {N : Nat} {f : Nat → Nat → Prop} {i c : Nat} : Reach N f i c ↔ i = c ∨ ∃ k, i < k ∧ k < N ∧ f i k ∧ Reach N f k c := by
  constructor
  · intro h
    cases h with
    | refl => exact .inl rfl
    | step h1 h2 h3 h4 => exact .inr ⟨_, h1, h2, h3, h4⟩
  · rintro (rfl | ⟨k, h1, h2, h3, h4⟩)
    · exact .refl _
    · exact .step h1 h2 h3 h4
theorem Reach.trans {N : Nat} {f : Nat → Nat → Prop} {i k c : Nat} (h : Reach N f i k) (g : Reach N f k c) : Reach N f i c := by
  induction h with
  | refl => exact g
  | step h1 h2 h3 _ ih => exact .step h1 h2 h3 (ih g)
theorem Reach.le {N : Nat} {f : Nat → Nat → Prop} {i c : Nat} (h : Reach N f i c) : i ≤ c := by
  induction h with
  | refl => exact Nat.le_refl _
  | step h1 _ _ _ ih => omega
theorem often_eq {x : List (List Bool)} {N : Nat} {f : Nat → Nat → Prop} (hx : Is x N f) (h0 : 0 < N) (hN : N < 900) : ∃ M, s_regex_spans_often (x, ()) = some (M, ()) ∧ Is M N (Reach N f) := by
  obtain ⟨M0, e0, hM0⟩ := nothing_eq (L := N - 1) (by omega)
  rw [show N - 1 + 1 = N by omega] at hM0
  have e : s_regex_spans_often (x, ()) = bindR (s_regex_nothing (w64 (((x.length : Nat) : Int) - 1), ())) fun r1 => regex_spans_often.p1 fuel fuel x r1.1 (w64 (((x.length : Nat) : Int) - 1)) := rfl
  rw [e, hx.len]
  rw [show s_regex_nothing (w64 ((N : Int) - 1), ()) = some (M0, ()) by rw [w64_pred h0 (by omega)]; exact e0, bindR_val]
  obtain ⟨M, hM, e⟩ := loopDown (N := N) (fun n s i => regex_spans_often.p1 fuel n x s i) (fun s => some (s, ())) (fun i s => Is s N (fun a c => a = c ∨ i ≤ a ∧ Reach N f a c)) (by omega)
    (fun n i s hi hs => by
      have e1 : regex_spans_often.p1 fuel (n + 1) x s (i : Int) = regex_spans_often.t1 (regex_spans_often.p2 fuel (regex_spans_often.p1 fuel n) fuel) regex_spans_often.t3 x s (i : Int) := rfl
      unfold regex_spans_often.t1 at e1
      rw [iteB_pos (decide_eq_true (by omega)), w64_succ (by omega)] at e1
      obtain ⟨s', hs', e2⟩ := loopAll (N := N) (fun m s k => regex_spans_often.p2 fuel (regex_spans_often.p1 fuel n) m x s (i : Int) k) (fun s => regex_spans_often.p1 fuel n x s (w64 ((i : Int) - 1)))
        (fun k s => i < k ∧ Is s N (fun a c => a = c ∨ i < a ∧ Reach N f a c ∨ a = i ∧ ∃ l, i < l ∧ l < k ∧ f i l ∧ Reach N f l c)) s (i + 1) (by omega)
        ⟨Nat.lt_succ_self i, hs.to fun a c _ _ => by
          constructor
          · rintro (h | ⟨h1, h2⟩)
            · exact .inl h
            · exact .inr (.inl ⟨by omega, h2⟩)
          · rintro (h | ⟨h1, h2⟩ | ⟨_, l, h1, h2, _⟩)
            · exact .inl h
            · exact .inr ⟨by omega, h2⟩
            · omega⟩ (by omega)
        (fun m k s hk ⟨hik, hs⟩ => by
          have e3 : regex_spans_often.p2 fuel (regex_spans_often.p1 fuel n) (m + 1) x s (i : Int) (k : Int) = regex_spans_often.t2 (regex_spans_often.t4 (regex_spans_often.p2 fuel (regex_spans_often.p1 fuel n) m)) (regex_spans_often.t5 (regex_spans_often.p1 fuel n)) x s (i : Int) (k : Int) := rfl
          unfold regex_spans_often.t2 regex_spans_often.t4 at e3
          have hv := hx.val hi hk
          rw [hx.len, iteB_pos (lt_dec hk), withinR_nat hi, withinR_nat (by rw [hx.rlen hi]; exact hk), withinR_nat (by rw [hs.len]; exact hi), withinR_nat (by rw [hs.len]; exact hk)] at e3
          rw [mustR_pos (by
            have : Nat.beq i k = false := by
              cases hq : Nat.beq i k with
              | false => rfl
              | true => have := Nat.eq_of_beq_eq_true hq; omega
            rw [this]; rfl)] at e3
          obtain ⟨r, er, hr⟩ := put_eq (hs.row i hi) (hs.row k hk) (by omega)
          rw [er, bindR_val] at e3
          cases hb : (x.getD i []).getD k false with
          | true =>
            rw [hb, iteB_true] at e3
            refine ⟨_, ⟨by omega, (hs.setRow hi hr).to fun a c ha hc => ?_⟩, e3⟩
            have hf := hv.1 hb
            by_cases ea : a = i
            · subst ea
              rw [if_pos rfl]
              constructor
              · rintro ((h | ⟨h, _⟩ | ⟨_, l, h1, h2, h3, h4⟩) | h | ⟨h1, h2⟩ | ⟨h, _⟩)
                · exact .inl h
                · omega
                · exact .inr (.inr ⟨rfl, l, h1, by omega, h3, h4⟩)
                · subst h; exact .inr (.inr ⟨rfl, k, hik, by omega, hf, .refl _⟩)
                · exact .inr (.inr ⟨rfl, k, hik, by omega, hf, h2⟩)
                · omega
              · rintro (h | ⟨h, _⟩ | ⟨_, l, h1, h2, h3, h4⟩)
                · exact .inl (.inl h)
                · omega
                · by_cases el : l = k
                  · subst el; exact .inr (.inr (.inl ⟨hik, h4⟩))
                  · exact .inl (.inr (.inr ⟨rfl, l, h1, by omega, h3, h4⟩))
            · rw [if_neg ea]; simp [ea]
          | false =>
            rw [hb, iteB_false] at e3
            have hf : ¬ f i k := fun h => by have := hv.2 h; rw [hb] at this; cases this
            refine ⟨_, ⟨by omega, hs.to fun a c ha hc => ?_⟩, e3⟩
            constructor
            · rintro (h | h | ⟨rfl, l, h1, h2, h3⟩)
              · exact .inl h
              · exact .inr (.inl h)
              · exact .inr (.inr ⟨rfl, l, h1, by omega, h3⟩)
            · rintro (h | h | ⟨rfl, l, h1, h2, h3, h4⟩)
              · exact .inl h
              · exact .inr (.inl h)
              · by_cases el : l = k
                · subst el; exact absurd h3 hf
                · exact .inr (.inr ⟨rfl, l, h1, by omega, h3, h4⟩))
        (fun m s ⟨_, hs⟩ => by
          have e3 : regex_spans_often.p2 fuel (regex_spans_often.p1 fuel n) (m + 1) x s (i : Int) (N : Int) = regex_spans_often.t2 (regex_spans_often.t4 (regex_spans_often.p2 fuel (regex_spans_often.p1 fuel n) m)) (regex_spans_often.t5 (regex_spans_often.p1 fuel n)) x s (i : Int) (N : Int) := rfl
          unfold regex_spans_often.t2 at e3
          rw [hx.len, iteB_neg lt_no] at e3
          exact e3)
      refine ⟨s', hs'.2.to fun a c ha hc => ?_, e1.trans e2⟩
      constructor
      · rintro (h | ⟨h1, h2⟩ | ⟨rfl, l, h1, h2, h3, h4⟩)
        · exact .inl h
        · exact .inr ⟨by omega, h2⟩
        · exact .inr ⟨Nat.le_refl _, .step h1 h2 h3 h4⟩
      · rintro (h | ⟨h1, h2⟩)
        · exact .inl h
        · by_cases ea : a = i
          · subst ea
            rcases Reach.iff.1 h2 with h | ⟨k, h3, h4, h5, h6⟩
            · exact .inl h
            · exact .inr (.inr ⟨rfl, k, h3, h4, h5, h6⟩)
          · exact .inr (.inl ⟨by omega, h2⟩))
    (fun n s hs => by
      have e1 : regex_spans_often.p1 fuel (n + 1) x s (-1) = regex_spans_often.t1 (regex_spans_often.p2 fuel (regex_spans_often.p1 fuel n) fuel) regex_spans_often.t3 x s (-1) := rfl
      unfold regex_spans_often.t1 at e1
      rw [e1, iteB_neg (by decide)]; rfl)
    N fuel M0 (Nat.le_refl _) (show N < 4611686018427387904 by omega) (hM0.to fun a c ha hc => by
      constructor
      · exact .inl
      · rintro (h | ⟨h, _⟩)
        · exact h
        · omega)
  exact ⟨M, e, hM.to fun i j hi hj => by
    constructor
    · rintro (rfl | h)
      · exact .refl _
      · exact h.2
    · exact fun h => .inr ⟨Nat.zero_le _, h⟩⟩
end Go.Proofs.Ytndffgpoljojaaa.Vm.Rx
namespace Go.Proofs.Ytndffgpoljojaaa.Vm.Rx
open Go Go.Proofs.Ytndffgpoljojaaa.Vm
set_option linter.unusedVariables false
set_option maxRecDepth 100000
abbrev dN : N0 := pk0 ((0 : Int), ((List.replicate 4 (0 : Int)), ([] : List N0)))
def KidsAre (sf : D17 → Option D34) (s : List UInt8) (l : List N0) (N : Nat) (G : Nat → Nat → Nat → Prop) : Prop :=
  ∀ q, q < l.length → ∃ Y, sf (out0 (l.getD q dN), (s, ())) = some (Y, ()) ∧ Is Y N (G q)
def catP (N : Nat) (G : Nat → Nat → Nat → Prop) (f0 : Nat → Nat → Prop) : Nat → Nat → Nat → Prop
  | 0 => f0
  | q + 1 => comp N (catP N G f0 q) (G q)
theorem of_cat {sf : D17 → Option D34} {s : List UInt8} {l : List N0} {N : Nat} {G : Nat → Nat → Nat → Prop} {f0 : Nat → Nat → Prop} {x : List (List Bool)} (hK : KidsAre sf s l N G) (hx : Is x N f0) (h0 : 0 < N) (hN : N < 900) (hl : l.length ≤ 1000) :
    ∃ M, regex_of.p2 sf fuel fuel s x l ((l.length : Nat) : Int) 0 = some (M, ()) ∧ Is M N (catP N G f0 l.length) := by
  obtain ⟨M, hM, e⟩ := loopAll (N := l.length) (fun n x i => regex_of.p2 sf fuel n s x l ((l.length : Nat) : Int) i) (fun x => some (x, ())) (fun i x => Is x N (catP N G f0 i)) x 0 (Nat.zero_le _) hx (by omega)
    (fun n i x hi hx => by
      have e1 : regex_of.p2 sf fuel (n + 1) s x l ((l.length : Nat) : Int) (i : Int) = regex_of.t2 sf (regex_of.p2 sf fuel n) (regex_of.t4 sf) s x l ((l.length : Nat) : Int) (i : Int) := rfl
      unfold regex_of.t2 at e1
      obtain ⟨Y, e2, hY⟩ := hK i hi
      obtain ⟨T, e3, hT⟩ := then_eq hx hY h0 hN
      rw [iteB_pos (lt_dec hi), withinR_nat hi, e2, bindR_val, e3, bindR_val] at e1
      exact ⟨T, hT, e1⟩)
    (fun n x hx => by
      have e1 : regex_of.p2 sf fuel (n + 1) s x l ((l.length : Nat) : Int) ((l.length : Nat) : Int) = regex_of.t2 sf (regex_of.p2 sf fuel n) (regex_of.t4 sf) s x l ((l.length : Nat) : Int) ((l.length : Nat) : Int) := rfl
      unfold regex_of.t2 at e1
      rw [e1, iteB_neg lt_no]; rfl)
  exact ⟨M, e, hM⟩
theorem of_alt {sf : D17 → Option D34} {s : List UInt8} {l : List N0} {N : Nat} {G : Nat → Nat → Nat → Prop} {f0 : Nat → Nat → Prop} {x : List (List Bool)} (hK : KidsAre sf s l N G) (hx : Is x N f0) (h0 : 0 < N) (hN : N < 900) (hl : l.length ≤ 1000) :
    ∃ M, regex_of.p3 sf fuel fuel s x l ((l.length : Nat) : Int) 0 = some (M, ()) ∧ Is M N (fun a c => f0 a c ∨ ∃ q, q < l.length ∧ G q a c) := by
  obtain ⟨M, hM, e⟩ := loopAll (N := l.length) (fun n x i => regex_of.p3 sf fuel n s x l ((l.length : Nat) : Int) i) (fun x => some (x, ())) (fun i x => Is x N (fun a c => f0 a c ∨ ∃ q, q < i ∧ G q a c)) x 0 (Nat.zero_le _) (hx.to fun a c _ _ => by simp) (by omega)
    (fun n i x hi hx => by
      have e1 : regex_of.p3 sf fuel (n + 1) s x l ((l.length : Nat) : Int) (i : Int) = regex_of.t3 sf (regex_of.p6 sf fuel (regex_of.p3 sf fuel n) fuel) (regex_of.t4 sf) s x l ((l.length : Nat) : Int) (i : Int) := rfl
      unfold regex_of.t3 at e1
      obtain ⟨Y, e2, hY⟩ := hK i hi
      rw [iteB_pos (lt_dec hi), withinR_nat hi, e2, bindR_val] at e1
      simp only [hY.len] at e1
      obtain ⟨M, hM, e3⟩ := loopAll (N := N) (fun m x k => regex_of.p6 sf fuel (regex_of.p3 sf fuel n) m s x l ((l.length : Nat) : Int) (i : Int) Y (N : Int) k) (fun x => regex_of.p3 sf fuel n s x l ((l.length : Nat) : Int) (w64 ((i : Int) + 1)))
        (fun k x => Is x N (fun a c => (f0 a c ∨ ∃ q, q < i ∧ G q a c) ∨ a < k ∧ G i a c)) x 0 (Nat.zero_le _) (hx.to fun a c _ _ => by simp) (by omega)
        (fun m k x hk hx => by
          have e3 : regex_of.p6 sf fuel (regex_of.p3 sf fuel n) (m + 1) s x l ((l.length : Nat) : Int) (i : Int) Y (N : Int) (k : Int) = regex_of.t6 sf (regex_of.p6 sf fuel (regex_of.p3 sf fuel n) m) (regex_of.t7 sf (regex_of.p3 sf fuel n)) s x l ((l.length : Nat) : Int) (i : Int) Y (N : Int) (k : Int) := rfl
          unfold regex_of.t6 at e3
          obtain ⟨r, er, hr⟩ := put_eq (hx.row k hk) (hY.row k hk) (by omega)
          rw [iteB_pos (lt_dec hk), withinR_nat (by rw [hY.len]; exact hk), withinR_nat (by rw [hx.len]; exact hk), er, bindR_val] at e3
          refine ⟨_, (hx.setRow hk hr).to fun a c ha hc => ?_, e3⟩
          by_cases ea : a = k
          · subst ea
            rw [if_pos rfl]
            constructor
            · rintro ((h | ⟨h, _⟩) | h)
              · exact .inl h
              · omega
              · exact .inr ⟨by omega, h⟩
            · rintro (h | ⟨_, h⟩)
              · exact .inl (.inl h)
              · exact .inr h
          · rw [if_neg ea, show a < k + 1 ↔ a < k by omega])
        (fun m x hx => by
          have e3 : regex_of.p6 sf fuel (regex_of.p3 sf fuel n) (m + 1) s x l ((l.length : Nat) : Int) (i : Int) Y (N : Int) (N : Int) = regex_of.t6 sf (regex_of.p6 sf fuel (regex_of.p3 sf fuel n) m) (regex_of.t7 sf (regex_of.p3 sf fuel n)) s x l ((l.length : Nat) : Int) (i : Int) Y (N : Int) (N : Int) := rfl
          unfold regex_of.t6 at e3
          rw [e3, iteB_neg lt_no]; rfl)
      refine ⟨M, hM.to fun a c ha hc => ?_, e1.trans e3⟩
      constructor
      · rintro ((h | ⟨q, h1, h2⟩) | ⟨_, h⟩)
        · exact .inl h
        · exact .inr ⟨q, by omega, h2⟩
        · exact .inr ⟨i, by omega, h⟩
      · rintro (h | ⟨q, h1, h2⟩)
        · exact .inl (.inl h)
        · by_cases eq : q = i
          · subst eq; exact .inr ⟨ha, h2⟩
          · exact .inl (.inr ⟨q, by omega, h2⟩))
    (fun n x hx => by
      have e1 : regex_of.p3 sf fuel (n + 1) s x l ((l.length : Nat) : Int) ((l.length : Nat) : Int) = regex_of.t3 sf (regex_of.p6 sf fuel (regex_of.p3 sf fuel n) fuel) (regex_of.t4 sf) s x l ((l.length : Nat) : Int) ((l.length : Nat) : Int) := rfl
      unfold regex_of.t3 at e1
      rw [e1, iteB_neg lt_no]; rfl)
  exact ⟨M, e, hM⟩
def oneP (s : List UInt8) (t : List Int) (a c : Nat) : Prop := a < s.length ∧ c = a + 1 ∧ hs t (s.getD a 0).toNat = true
theorem byteAt_nat (s : List UInt8) (i : Nat) : byteAt s i = (((s.getD i 0).toNat : Nat) : Int) := rfl
theorem of_one {sf : D17 → Option D34} {s : List UInt8} {k : Int} {t : List Int} {l : List N0} {x : List (List Bool)} (ht : V t) (hs' : s.length < 800) (hx : Is x (s.length + 1) (fun i j => i = j)) :
    ∃ M, regex_of.p1 sf fuel fuel s x ((s.length : Nat) : Int) 0 (k, (t, l)) = some (M, ()) ∧ Is M (s.length + 1) (oneP s t) := by
  obtain ⟨M, hM, e⟩ := loopAll (N := s.length) (fun n x i => regex_of.p1 sf fuel n s x ((s.length : Nat) : Int) i (k, (t, l))) (fun x => regex_of.p5 sf fuel s x) (fun i x => Is x (s.length + 1) (fun a c => i ≤ a ∧ a = c ∨ a < i ∧ oneP s t a c)) x 0 (Nat.zero_le _) (hx.to fun a c _ _ => by simp) (by omega)
    (fun n i x hi hx => by
      have e1 : regex_of.p1 sf fuel (n + 1) s x ((s.length : Nat) : Int) (i : Int) (k, (t, l)) = regex_of.t1 sf (regex_of.p1 sf fuel n) (regex_of.p5 sf fuel) s x ((s.length : Nat) : Int) (i : Int) (k, (t, l)) := rfl
      unfold regex_of.t1 at e1
      have hi1 : i < s.length + 1 := by omega
      have hb := Has_eq ht (s.getD i 0).toNat (UInt8.toNat_lt _)
      have hM1 := hx.set hi1 hi1 false
      have hM2 := hM1.set hi1 (show i + 1 < s.length + 1 by omega) (hs t (s.getD i 0).toNat)
      rw [iteB_pos (lt_dec hi), withinR_nat (by rw [hx.len]; exact hi1), withinR_nat (by rw [hx.len]; exact hi1), withinR_nat hi, byteAt_nat] at e1
      simp only [hb, bindR_val] at e1
      rw [withinR_nat (by rw [hx.rlen hi1]; exact hi1), withinR_nat (by rw [hx.rlen hi1]; exact hi1), w64_succ (by omega)] at e1
      rw [withinR_nat (by rw [hM1.rlen hi1]; omega), meetK_self, meetK_self] at e1
      refine ⟨_, hM2.to fun a c ha hc => ?_, by rw [w64_succ (by omega)]; exact e1⟩
      by_cases ea : a = i
      · subst ea
        by_cases ec : c = a + 1
        · subst ec
          rw [if_pos ⟨rfl, rfl⟩]
          constructor
          · exact fun h => .inr ⟨by omega, hi, rfl, h⟩
          · rintro (⟨h, _⟩ | ⟨_, _, _, h⟩)
            · omega
            · exact h
        · rw [if_neg (fun h => ec h.2)]
          by_cases ec2 : c = a
          · subst ec2
            rw [if_pos ⟨rfl, rfl⟩]
            constructor
            · intro h; cases h
            · rintro (⟨h, _⟩ | ⟨_, _, h, _⟩) <;> omega
          · rw [if_neg (fun h => ec2 h.2)]
            constructor
            · rintro (⟨_, h⟩ | ⟨h, _⟩)
              · exact absurd h.symm ec2
              · omega
            · rintro (⟨h, _⟩ | ⟨_, _, h, _⟩)
              · omega
              · exact absurd h ec
      · rw [if_neg (fun h => ea h.1), if_neg (fun h => ea h.1), show i ≤ a ↔ i + 1 ≤ a by omega, show a < i ↔ a < i + 1 by omega])
    (fun n x hx => by
      have e1 : regex_of.p1 sf fuel (n + 1) s x ((s.length : Nat) : Int) ((s.length : Nat) : Int) (k, (t, l)) = regex_of.t1 sf (regex_of.p1 sf fuel n) (regex_of.p5 sf fuel) s x ((s.length : Nat) : Int) ((s.length : Nat) : Int) (k, (t, l)) := rfl
      unfold regex_of.t1 at e1
      rw [e1, iteB_neg lt_no])
  have hl1 : s.length < s.length + 1 := by omega
  have e2 : regex_of.p5 sf fuel s M = regex_of.t5 sf (regex_of.t4 sf) s M := rfl
  unfold regex_of.t5 at e2
  rw [withinR_nat (by rw [hM.len]; exact hl1), withinR_nat (by rw [hM.rlen hl1]; exact hl1)] at e2
  refine ⟨_, e.trans e2, (hM.set hl1 hl1 false).to fun a c ha hc => ?_⟩
  by_cases ea : a = s.length
  · subst ea
    constructor
    · intro h
      by_cases ec : c = s.length
      · rw [if_pos ⟨rfl, ec⟩] at h; cases h
      · rw [if_neg (fun h => ec h.2)] at h
        rcases h with ⟨_, h⟩ | ⟨h, _⟩
        · exact absurd h.symm ec
        · omega
    · rintro ⟨h, _⟩; omega
  · rw [if_neg (fun h => ea h.1)]
    constructor
    · rintro (⟨h, _⟩ | ⟨_, h⟩)
      · omega
      · exact h
    · exact fun h => .inr ⟨by omega, h⟩
end Go.Proofs.Ytndffgpoljojaaa.Vm.Rx
namespace Go.Proofs.Ytndffgpoljojaaa.Vm.Rx
open Go Go.Proofs.Ytndffgpoljojaaa.Vm
set_option linter.unusedVariables false
set_option maxRecDepth 100000
theorem room_small {β : Type} {l1 l2 : List β} (h1 : l1.length < 100000) (h2 : l2.length < 100000) : room l1 l2 = true := decide_eq_true (by omega)
theorem none_is (N : Nat) : Is (List.replicate N (List.replicate N false)) N (fun _ _ => False) :=
  ⟨List.length_replicate, fun i hi => by
    have : (List.replicate N (List.replicate N false)).getD i [] = List.replicate N false := by simp [List.getD_eq_getElem?_getD, hi]
    rw [this]; exact Ro.repl N⟩
theorem repl_snoc {β : Type} (a : β) (i : Nat) : List.replicate i a ++ [a] = List.replicate (i + 1) a := (List.replicate_succ' ..).symm
theorem ref_rows (sf : D17 → Option D34) {N : Nat} (hN : N < 900) (s : List UInt8) (x : D2) :
    ref06_Spans.p1 sf fuel fuel s (N : Int) [] 0 x = ref06_Spans.p2 sf fuel s (N : Int) (List.replicate N (List.replicate N false)) x := by
  obtain ⟨M, hM, e⟩ := loopAll (N := N) (fun n m i => ref06_Spans.p1 sf fuel n s (N : Int) m i x) (fun m => ref06_Spans.p2 sf fuel s (N : Int) m x) (fun i m => m = List.replicate i (List.replicate N false)) [] 0 (Nat.zero_le _) rfl (by omega)
    (fun n i m hi hm => by
      subst hm
      have e1 : ref06_Spans.p1 sf fuel (n + 1) s (N : Int) (List.replicate i (List.replicate N false)) (i : Int) x = ref06_Spans.t1 sf (ref06_Spans.p1 sf fuel n) (ref06_Spans.p2 sf fuel) s (N : Int) (List.replicate i (List.replicate N false)) (i : Int) x := rfl
      unfold ref06_Spans.t1 at e1
      rw [iteB_pos (lt_dec hi), mustR_dec ⟨rfl, by omega, by omega⟩, show Int.toNat (N : Int) = N by omega, mustR_pos (room_small (by simp; omega) (by simp)), repl_snoc] at e1
      exact ⟨_, rfl, e1⟩)
    (fun n m hm => by
      have e1 : ref06_Spans.p1 sf fuel (n + 1) s (N : Int) m (N : Int) x = ref06_Spans.t1 sf (ref06_Spans.p1 sf fuel n) (ref06_Spans.p2 sf fuel) s (N : Int) m (N : Int) x := rfl
      unfold ref06_Spans.t1 at e1
      rw [e1, iteB_neg lt_no])
  subst hM
  exact e
theorem ref_rows9 (sf : D17 → Option D34) {N : Nat} (hN : N < 900) (a8 : ref06_Spans.T8) (s : List UInt8) (m : List (List Bool)) (q : Int) (y : List (List Bool)) (x : D2) :
    ref06_Spans.p9 sf fuel a8 fuel s (N : Int) m q y [] 0 x = ref06_Spans.p12 sf fuel a8 fuel s (N : Int) m q y (List.replicate N (List.replicate N false)) 0 x := by
  obtain ⟨M, hM, e⟩ := loopAll (N := N) (fun n o i => ref06_Spans.p9 sf fuel a8 n s (N : Int) m q y o i x) (fun o => ref06_Spans.p12 sf fuel a8 fuel s (N : Int) m q y o 0 x) (fun i m => m = List.replicate i (List.replicate N false)) [] 0 (Nat.zero_le _) rfl (by omega)
    (fun n i o hi hm => by
      subst hm
      have e1 : ref06_Spans.p9 sf fuel a8 (n + 1) s (N : Int) m q y (List.replicate i (List.replicate N false)) (i : Int) x = ref06_Spans.t9 sf (ref06_Spans.p9 sf fuel a8 n) (ref06_Spans.p11 sf fuel a8) s (N : Int) m q y (List.replicate i (List.replicate N false)) (i : Int) x := rfl
      unfold ref06_Spans.t9 at e1
      rw [iteB_pos (lt_dec hi), mustR_dec ⟨rfl, by omega, by omega⟩, show Int.toNat (N : Int) = N by omega, mustR_pos (room_small (by simp; omega) (by simp)), repl_snoc] at e1
      exact ⟨_, rfl, e1⟩)
    (fun n o hm => by
      have e1 : ref06_Spans.p9 sf fuel a8 (n + 1) s (N : Int) m q y o (N : Int) x = ref06_Spans.t9 sf (ref06_Spans.p9 sf fuel a8 n) (ref06_Spans.p11 sf fuel a8) s (N : Int) m q y o (N : Int) x := rfl
      unfold ref06_Spans.t9 at e1
      rw [e1, iteB_neg lt_no]; rfl)
  subst hM
  exact e
theorem ref_one (sf : D17 → Option D34) {s : List UInt8} {k : Int} {t : List Int} {l : List N0} {x : List (List Bool)} (ht : V t) (hs' : s.length < 800) (hx : Is x (s.length + 1) (fun _ _ => False)) :
    ∃ M, ref06_Spans.p3 sf fuel fuel s x 0 (k, (t, l)) = some (M, ()) ∧ Is M (s.length + 1) (oneP s t) := by
  obtain ⟨M, hM, e⟩ := loopAll (N := s.length) (fun n x i => ref06_Spans.p3 sf fuel n s x i (k, (t, l))) (fun x => some (x, ())) (fun i x => Is x (s.length + 1) (fun a c => a < i ∧ oneP s t a c)) x 0 (Nat.zero_le _) (hx.to fun a c _ _ => by simp) (by omega)
    (fun n i x hi hx => by
      have e1 : ref06_Spans.p3 sf fuel (n + 1) s x (i : Int) (k, (t, l)) = ref06_Spans.t3 sf (ref06_Spans.p3 sf fuel n) (ref06_Spans.p5 sf fuel) s x (i : Int) (k, (t, l)) := rfl
      unfold ref06_Spans.t3 at e1
      have hi1 : i < s.length + 1 := by omega
      have hb := has_eq ht (s.getD i 0).toNat (UInt8.toNat_lt _)
      rw [iteB_pos (lt_dec hi), withinR_nat (by rw [hx.len]; exact hi1), withinR_nat hi, byteAt_nat] at e1
      simp only [hb, bindR_val] at e1
      rw [w64_succ (by omega), withinR_nat (by rw [hx.rlen hi1]; omega)] at e1
      refine ⟨_, (hx.set hi1 (show i + 1 < s.length + 1 by omega) (hs t (s.getD i 0).toNat)).to fun a c ha hc => ?_, by rw [w64_succ (by omega)]; exact e1⟩
      by_cases ea : a = i
      · subst ea
        by_cases ec : c = a + 1
        · subst ec
          rw [if_pos ⟨rfl, rfl⟩]
          exact ⟨fun h => ⟨by omega, hi, rfl, h⟩, fun h => h.2.2.2⟩
        · rw [if_neg (fun h => ec h.2)]
          exact ⟨fun h => by omega, fun h => absurd h.2.2.1 ec⟩
      · rw [if_neg (fun h => ea h.1), show a < i ↔ a < i + 1 by omega])
    (fun n x hx => by
      have e1 : ref06_Spans.p3 sf fuel (n + 1) s x ((s.length : Nat) : Int) (k, (t, l)) = ref06_Spans.t3 sf (ref06_Spans.p3 sf fuel n) (ref06_Spans.p5 sf fuel) s x ((s.length : Nat) : Int) (k, (t, l)) := rfl
      unfold ref06_Spans.t3 at e1
      rw [e1, iteB_neg lt_no]; rfl)
  exact ⟨M, e, hM.to fun a c ha hc => ⟨fun h => h.2, fun h => ⟨h.1, h⟩⟩⟩
theorem ref_diag (sf : D17 → Option D34) {N : Nat} (hN : N < 900) {s : List UInt8} {d : D2} {x : List (List Bool)} (hx : Is x N (fun _ _ => False)) :
    ∃ M, ref06_Spans.p6 sf fuel fuel s (N : Int) x 0 d = ref06_Spans.p7 sf fuel s (N : Int) M d ∧ Is M N (fun i j => i = j) := by
  obtain ⟨M, hM, e⟩ := loopAll (N := N) (fun n x i => ref06_Spans.p6 sf fuel n s (N : Int) x i d) (fun x => ref06_Spans.p7 sf fuel s (N : Int) x d) (fun i x => Is x N (fun a c => a < i ∧ a = c)) x 0 (Nat.zero_le _) (hx.to fun a c _ _ => by simp) (by omega)
    (fun n i x hi hx => by
      have e1 : ref06_Spans.p6 sf fuel (n + 1) s (N : Int) x (i : Int) d = ref06_Spans.t6 sf (ref06_Spans.p6 sf fuel n) (ref06_Spans.p7 sf fuel) s (N : Int) x (i : Int) d := rfl
      unfold ref06_Spans.t6 at e1
      rw [iteB_pos (lt_dec hi), withinR_nat (by rw [hx.len]; exact hi), withinR_nat (by rw [hx.rlen hi]; exact hi)] at e1
      refine ⟨_, (hx.set hi hi true).to fun a c ha hc => ?_, e1⟩
      by_cases ea : a = i ∧ c = i
      · rw [if_pos ea]; obtain ⟨rfl, rfl⟩ := ea; simp
      · rw [if_neg ea]; omega)
    (fun n x hx => by
      have e1 : ref06_Spans.p6 sf fuel (n + 1) s (N : Int) x (N : Int) d = ref06_Spans.t6 sf (ref06_Spans.p6 sf fuel n) (ref06_Spans.p7 sf fuel) s (N : Int) x (N : Int) d := rfl
      unfold ref06_Spans.t6 at e1
      rw [e1, iteB_neg lt_no])
  exact ⟨M, e, hM.to fun i j hi hj => by simp only [hi, true_and]⟩
end Go.Proofs.Ytndffgpoljojaaa.Vm.Rx
namespace Go.Proofs.Ytndffgpoljojaaa.Vm.Rx
open Go Go.Proofs.Ytndffgpoljojaaa.Vm
set_option linter.unusedVariables false
set_option maxRecDepth 100000
def UT (N : Nat) (f : Nat → Nat → Prop) : Prop := ∀ a c, a < N → c < N → f a c → a ≤ c
def stepP (N : Nat) (kind : Int) (f g : Nat → Nat → Prop) (a c : Nat) : Prop := if kind = 2 then comp N f g a c else f a c ∨ g a c
theorem UT.comp {N : Nat} {f g : Nat → Nat → Prop} (hf : UT N f) (hg : UT N g) : UT N (comp N f g) := fun a c ha hc ⟨k, hk, h1, h2⟩ => Nat.le_trans (hf a k ha hk h1) (hg k c hk hc h2)
theorem UT.step {N : Nat} {kind : Int} {f g : Nat → Nat → Prop} (hf : UT N f) (hg : UT N g) : UT N (stepP N kind f g) := fun a c ha hc h => by
  unfold stepP at h
  split at h
  · exact hf.comp hg a c ha hc h
  · rcases h with h | h
    · exact hf a c ha hc h
    · exact hg a c ha hc h
theorem ref_in {sf : D17 → Option D34} {N : Nat} (hN : N < 900) {a8 : ref06_Spans.T8} {a12 : ref06_Spans.T12} {a13 : ref06_Spans.T13} {s : List UInt8} {m y o : List (List Bool)} {q : Int} {d : D2} {f g : Nat → Nat → Prop} {T : Nat → Nat → Prop}
    (hm : Is m N f) (hy : Is y N g) {i k : Nat} (hi : i < N) (hk : k < N) (hik : i ≤ k) (ho : Is o N T) (hno : ¬ T i k) :
    ∃ o', ref06_Spans.p15 sf fuel a8 a12 a13 fuel s (N : Int) m q y o (i : Int) (k : Int) (i : Int) d = a13 s (N : Int) m q y o' (i : Int) (w64 ((k : Int) + 1)) d ∧
      Is o' N (fun a c => if a = i ∧ c = k then ∃ l, i ≤ l ∧ l < k + 1 ∧ f i l ∧ g l k else T a c) := by
  obtain ⟨o', ho', e⟩ := loopAll (N := k + 1) (fun n o j => ref06_Spans.p15 sf fuel a8 a12 a13 n s (N : Int) m q y o (i : Int) (k : Int) j d) (fun o' => a13 s (N : Int) m q y o' (i : Int) (w64 ((k : Int) + 1)) d)
    (fun j o => i ≤ j ∧ Is o N (fun a c => if a = i ∧ c = k then ∃ l, i ≤ l ∧ l < j ∧ f i l ∧ g l k else T a c)) o i (by omega) ⟨Nat.le_refl _, ho.to fun a c _ _ => by
      by_cases e : a = i ∧ c = k
      · rw [if_pos e, e.1, e.2]
        exact ⟨fun h => absurd h hno, fun ⟨l, h1, h2, _⟩ => by omega⟩
      · rw [if_neg e]⟩ (by omega)
    (fun n j o hj ⟨hij, ho⟩ => by
      have e1 : ref06_Spans.p15 sf fuel a8 a12 a13 (n + 1) s (N : Int) m q y o (i : Int) (k : Int) (j : Int) d = ref06_Spans.t15 sf (ref06_Spans.t18 sf (ref06_Spans.p15 sf fuel a8 a12 a13 n)) (ref06_Spans.t16 sf a13) s (N : Int) m q y o (i : Int) (k : Int) (j : Int) d := rfl
      unfold ref06_Spans.t15 ref06_Spans.t18 at e1
      have hjN : j < N := by omega
      have key : ∀ b, (b = true ↔ (∃ l, i ≤ l ∧ l < j ∧ f i l ∧ g l k) ∨ i ≤ j ∧ f i j ∧ g j k) → Is (o.set i ((o.getD i []).set k b)) N (fun a c => if a = i ∧ c = k then ∃ l, i ≤ l ∧ l < j + 1 ∧ f i l ∧ g l k else T a c) := fun b hb => (ho.set hi hk b).to fun a c ha hc => by
        by_cases e : a = i ∧ c = k
        · rw [if_pos e, if_pos e, hb]
          constructor
          · rintro (⟨l, h1, h2, h3⟩ | h)
            · exact ⟨l, h1, by omega, h3⟩
            · exact ⟨j, h.1, by omega, h.2⟩
          · rintro ⟨l, h1, h2, h3⟩
            by_cases el : l = j
            · subst el; exact .inr ⟨h1, h3⟩
            · exact .inl ⟨l, h1, by omega, h3⟩
        · rw [if_neg e, if_neg e, if_neg e]
      have hv := ho.val hi hk
      rw [if_pos ⟨rfl, rfl⟩] at hv
      have hmv := hm.val hi hjN
      have hyv := hy.val hjN hk
      rw [iteB_pos (decide_eq_true (by omega)), withinR_nat (by rw [ho.len]; exact hi), withinR_nat (by rw [ho.len]; exact hi), withinR_nat (by rw [ho.rlen hi]; exact hk)] at e1
      cases hb : (o.getD i []).getD k false with
      | true =>
        rw [hb, iteB_true, withinR_nat (by rw [ho.rlen hi]; exact hk)] at e1
        exact ⟨_, ⟨by omega, key true ⟨fun _ => .inl (hv.1 hb), fun _ => rfl⟩⟩, e1⟩
      | false =>
        have hv0 : ¬ ∃ l, i ≤ l ∧ l < j ∧ f i l ∧ g l k := fun h => by have := hv.2 h; rw [hb] at this; cases this
        rw [hb, iteB_false, withinR_nat (by rw [hm.len]; exact hi), withinR_nat (by rw [hm.rlen hi]; exact hjN)] at e1
        cases hc : (m.getD i []).getD j false with
        | true =>
          rw [hc, iteB_true, withinR_nat (by rw [hy.len]; exact hjN), withinR_nat (by rw [hy.rlen hjN]; exact hk), withinR_nat (by rw [ho.rlen hi]; exact hk)] at e1
          exact ⟨_, ⟨by omega, key _ ⟨fun h => .inr ⟨hij, hmv.1 hc, hyv.1 h⟩, fun h => by
            rcases h with h | h
            · exact absurd h hv0
            · exact hyv.2 h.2.2⟩⟩, e1⟩
        | false =>
          rw [hc, iteB_false, withinR_nat (by rw [ho.rlen hi]; exact hk)] at e1
          exact ⟨_, ⟨by omega, key false ⟨fun h => absurd h (by decide), fun h => by
            rcases h with h | h
            · exact absurd h hv0
            · have := hmv.2 h.2.1; rw [hc] at this; cases this⟩⟩, e1⟩)
    (fun n o ⟨_, ho⟩ => by
      have e1 : ref06_Spans.p15 sf fuel a8 a12 a13 (n + 1) s (N : Int) m q y o (i : Int) (k : Int) ((k + 1 : Nat) : Int) d = ref06_Spans.t15 sf (ref06_Spans.t18 sf (ref06_Spans.p15 sf fuel a8 a12 a13 n)) (ref06_Spans.t16 sf a13) s (N : Int) m q y o (i : Int) (k : Int) ((k + 1 : Nat) : Int) d := rfl
      unfold ref06_Spans.t15 at e1
      rw [e1, iteB_neg (decide_eq_false (by omega))]; rfl)
  exact ⟨o', e, ho'.2⟩
theorem ref_step {sf : D17 → Option D34} {N : Nat} (h0 : 0 < N) (hN : N < 900) (a8 : ref06_Spans.T8) {s : List UInt8} {m y : List (List Bool)} {q : Int} {d : D2} {f g : Nat → Nat → Prop}
    (hm : Is m N f) (hy : Is y N g) (hf : UT N f) (hg : UT N g) :
    ∃ o, ref06_Spans.p9 sf fuel a8 fuel s (N : Int) m q y [] 0 d = a8 s (N : Int) o (w64 (q + 1)) d ∧ Is o N (stepP N d.1 f g) := by
  rw [ref_rows9 sf hN]
  have hut := hf.step (kind := d.1) hg
  obtain ⟨o, ho, e⟩ := loopAll (N := N) (fun n o i => ref06_Spans.p12 sf fuel a8 n s (N : Int) m q y o i d) (fun o => a8 s (N : Int) o (w64 (q + 1)) d) (fun i o => Is o N (fun a c => a < i ∧ stepP N d.1 f g a c)) (List.replicate N (List.replicate N false)) 0 (Nat.zero_le _) ((none_is N).to fun a c _ _ => by simp) (by omega)
    (fun n i o hi ho => by
      have e1 : ref06_Spans.p12 sf fuel a8 (n + 1) s (N : Int) m q y o (i : Int) d = ref06_Spans.t12 sf (ref06_Spans.p13 sf fuel a8 (ref06_Spans.p12 sf fuel a8 n) fuel) (ref06_Spans.p14 sf fuel a8) s (N : Int) m q y o (i : Int) d := rfl
      unfold ref06_Spans.t12 at e1
      rw [iteB_pos (lt_dec hi)] at e1
      obtain ⟨o', ho', e2⟩ := loopAll (N := N) (fun n' o k => ref06_Spans.p13 sf fuel a8 (ref06_Spans.p12 sf fuel a8 n) n' s (N : Int) m q y o (i : Int) k d) (fun o => ref06_Spans.p12 sf fuel a8 n s (N : Int) m q y o (w64 ((i : Int) + 1)) d)
        (fun k o => i ≤ k ∧ Is o N (fun a c => a < i ∧ stepP N d.1 f g a c ∨ a = i ∧ c < k ∧ stepP N d.1 f g a c)) o i (by omega) ⟨Nat.le_refl _, ho.to fun a c ha hc => ⟨.inl, fun h => by
          rcases h with h | ⟨rfl, h1, h2⟩
          · exact h
          · have := hut a c ha hc h2; omega⟩⟩ (by omega)
        (fun n' k o hk ⟨hik, ho⟩ => by
          have e3 : ref06_Spans.p13 sf fuel a8 (ref06_Spans.p12 sf fuel a8 n) (n' + 1) s (N : Int) m q y o (i : Int) (k : Int) d = ref06_Spans.t13 sf (ref06_Spans.p15 sf fuel a8 (ref06_Spans.p12 sf fuel a8 n) (ref06_Spans.p13 sf fuel a8 (ref06_Spans.p12 sf fuel a8 n) n') fuel) (ref06_Spans.t16 sf (ref06_Spans.p13 sf fuel a8 (ref06_Spans.p12 sf fuel a8 n) n')) (ref06_Spans.t17 sf (ref06_Spans.p12 sf fuel a8 n)) s (N : Int) m q y o (i : Int) (k : Int) d := rfl
          unfold ref06_Spans.t13 ref06_Spans.t16 at e3
          rw [iteB_pos (lt_dec hk)] at e3
          by_cases hk2 : d.1 = 2
          · rw [iteB_pos (decide_eq_true hk2)] at e3
            obtain ⟨o', e4, ho'⟩ := ref_in (sf := sf) hN (a8 := a8) (a12 := ref06_Spans.p12 sf fuel a8 n) (a13 := ref06_Spans.p13 sf fuel a8 (ref06_Spans.p12 sf fuel a8 n) n') (s := s) (q := q) (d := d) hm hy hi hk hik ho (fun h => by
              rcases h with ⟨h, _⟩ | ⟨_, h, _⟩ <;> omega)
            refine ⟨o', ⟨by omega, ho'.to fun a c ha hc => ?_⟩, e3.trans e4⟩
            have hst : ∀ a c, stepP N d.1 f g a c ↔ comp N f g a c := fun a c => by unfold stepP; rw [if_pos hk2]
            by_cases ea : a = i ∧ c = k
            · obtain ⟨rfl, rfl⟩ := ea
              rw [if_pos ⟨rfl, rfl⟩, hst]
              constructor
              · rintro ⟨l, h1, h2, h3⟩; exact .inr ⟨rfl, by omega, l, by omega, h3⟩
              · rintro (⟨h, _⟩ | ⟨_, _, l, h1, h2, h3⟩)
                · omega
                · exact ⟨l, hf a l ha h1 h2, Nat.lt_succ_of_le (hg l c h1 hc h3), h2, h3⟩
            · rw [if_neg ea]
              constructor
              · rintro (h | ⟨h1, h2, h3⟩)
                · exact .inl h
                · exact .inr ⟨h1, by omega, h3⟩
              · rintro (h | ⟨h1, h2, h3⟩)
                · exact .inl h
                · exact .inr ⟨h1, by by_cases ec : c = k; exact absurd ⟨h1, ec⟩ ea; omega, h3⟩
          · rw [iteB_neg (decide_eq_false hk2)] at e3
            have hst : ∀ a c, stepP N d.1 f g a c ↔ f a c ∨ g a c := fun a c => by unfold stepP; rw [if_neg hk2]
            have hmv := hm.val hi hk
            have hyv := hy.val hi hk
            have key : ∀ b, (b = true ↔ f i k ∨ g i k) → Is (o.set i ((o.getD i []).set k b)) N (fun a c => a < i ∧ stepP N d.1 f g a c ∨ a = i ∧ c < k + 1 ∧ stepP N d.1 f g a c) := fun b hb => (ho.set hi hk b).to fun a c ha hc => by
              by_cases ea : a = i ∧ c = k
              · obtain ⟨rfl, rfl⟩ := ea
                rw [if_pos ⟨rfl, rfl⟩, hst, hb]
                exact ⟨fun h => .inr ⟨rfl, by omega, h⟩, fun h => by
                  rcases h with ⟨h, _⟩ | ⟨_, _, h⟩
                  · omega
                  · exact h⟩
              · rw [if_neg ea]
                constructor
                · rintro (h | ⟨h1, h2, h3⟩)
                  · exact .inl h
                  · exact .inr ⟨h1, by omega, h3⟩
                · rintro (h | ⟨h1, h2, h3⟩)
                  · exact .inl h
                  · exact .inr ⟨h1, by by_cases ec : c = k; exact absurd ⟨h1, ec⟩ ea; omega, h3⟩
            rw [withinR_nat (by rw [ho.len]; exact hi), withinR_nat (by rw [hm.len]; exact hi), withinR_nat (by rw [hm.rlen hi]; exact hk)] at e3
            cases hb : (m.getD i []).getD k false with
            | true =>
              rw [hb, iteB_true, withinR_nat (by rw [ho.rlen hi]; exact hk)] at e3
              exact ⟨_, ⟨by omega, key true ⟨fun _ => .inl (hmv.1 hb), fun _ => rfl⟩⟩, e3⟩
            | false =>
              rw [hb, iteB_false, withinR_nat (by rw [hy.len]; exact hi), withinR_nat (by rw [hy.rlen hi]; exact hk), withinR_nat (by rw [ho.rlen hi]; exact hk)] at e3
              exact ⟨_, ⟨by omega, key _ ⟨fun h => .inr (hyv.1 h), fun h => by
                rcases h with h | h
                · have := hmv.2 h; rw [hb] at this; cases this
                · exact hyv.2 h⟩⟩, e3⟩)
        (fun n' o ⟨_, ho⟩ => by
          have e3 : ref06_Spans.p13 sf fuel a8 (ref06_Spans.p12 sf fuel a8 n) (n' + 1) s (N : Int) m q y o (i : Int) (N : Int) d = ref06_Spans.t13 sf (ref06_Spans.p15 sf fuel a8 (ref06_Spans.p12 sf fuel a8 n) (ref06_Spans.p13 sf fuel a8 (ref06_Spans.p12 sf fuel a8 n) n') fuel) (ref06_Spans.t16 sf (ref06_Spans.p13 sf fuel a8 (ref06_Spans.p12 sf fuel a8 n) n')) (ref06_Spans.t17 sf (ref06_Spans.p12 sf fuel a8 n)) s (N : Int) m q y o (i : Int) (N : Int) d := rfl
          unfold ref06_Spans.t13 at e3
          rw [e3, iteB_neg lt_no]; rfl)
      refine ⟨o', ho'.2.to fun a c ha hc => ?_, e1.trans e2⟩
      constructor
      · rintro (⟨h1, h2⟩ | ⟨rfl, _, h⟩)
        · exact ⟨by omega, h2⟩
        · exact ⟨by omega, h⟩
      · rintro ⟨h1, h2⟩
        by_cases ea : a = i
        · exact .inr ⟨ea, hc, h2⟩
        · exact .inl ⟨by omega, h2⟩)
    (fun n o ho => by
      have e1 : ref06_Spans.p12 sf fuel a8 (n + 1) s (N : Int) m q y o (N : Int) d = ref06_Spans.t12 sf (ref06_Spans.p13 sf fuel a8 (ref06_Spans.p12 sf fuel a8 n) fuel) (ref06_Spans.p14 sf fuel a8) s (N : Int) m q y o (N : Int) d := rfl
      unfold ref06_Spans.t12 at e1
      rw [e1, iteB_neg lt_no]; rfl)
  exact ⟨o, e, ho.to fun a c ha hc => by simp only [ha, true_and]⟩
end Go.Proofs.Ytndffgpoljojaaa.Vm.Rx
namespace Go.Proofs.Ytndffgpoljojaaa.Vm.Rx
open Go Go.Proofs.Ytndffgpoljojaaa.Vm
set_option linter.unusedVariables false
set_option maxRecDepth 100000
def W (f : Nat → Nat → Prop) : Nat → Nat → Nat → Prop
  | 0, a, c => f a c
  | J + 1, a, c => W f J a c ∨ W f J a J ∧ W f J J c
theorem W_mono {f : Nat → Nat → Prop} {a c : Nat} : ∀ {J K : Nat}, J ≤ K → W f J a c → W f K a c
  | J, 0, h, hw => by
    have : J = 0 := by omega
    subst this; exact hw
  | J, K + 1, h, hw => by
    by_cases e : J = K + 1
    · subst e; exact hw
    · exact .inl (W_mono (K := K) (by omega) hw)
theorem W_col {f : Nat → Nat → Prop} {J a : Nat} : W f (J + 1) a J ↔ W f J a J := ⟨fun h => h.elim id fun h => h.1, .inl⟩
theorem W_row {f : Nat → Nat → Prop} {J c : Nat} : W f (J + 1) J c ↔ W f J J c := ⟨fun h => h.elim id fun h => h.2, .inl⟩
theorem W_trans {f : Nat → Nat → Prop} : ∀ (J j : Nat), j < J → ∀ a c, W f J a j → W f J j c → W f J a c
  | 0, j, h, _, _, _, _ => by omega
  | J + 1, j, h, a, c, h1, h2 => by
    by_cases e : j = J
    · subst e
      exact .inr ⟨W_col.1 h1, W_row.1 h2⟩
    · have ih := W_trans (f := f) J j (by omega)
      rcases h1 with h1 | ⟨h1, h1'⟩
      · rcases h2 with h2 | ⟨h2, h2'⟩
        · exact .inl (ih _ _ h1 h2)
        · exact .inr ⟨ih _ _ h1 h2, h2'⟩
      · rcases h2 with h2 | ⟨h2, h2'⟩
        · exact .inr ⟨h1, ih _ _ h1' h2⟩
        · exact .inr ⟨h1, h2'⟩
theorem W_reach {N : Nat} {f g : Nat → Nat → Prop} (hf : ∀ a c, f a c ↔ a = c ∨ g a c) (hg : UT N g) {a c : Nat} (ha : a < N) (hc : c < N) : W f N a c ↔ Reach N g a c := by
  constructor
  · have key : ∀ J, J ≤ N → ∀ a c, a < N → c < N → W f J a c → Reach N g a c := by
      intro J
      induction J with
      | zero =>
        intro _ a c ha hc h
        rcases (hf a c).1 h with rfl | h
        · exact .refl _
        · by_cases e : a = c
          · subst e; exact .refl _
          · have := hg a c ha hc h
            exact .step (by omega) hc h (.refl _)
      | succ J ih =>
        intro hJ a c ha hc h
        rcases h with h | ⟨h1, h2⟩
        · exact ih (by omega) a c ha hc h
        · exact (ih (by omega) a J ha (by omega) h1).trans (ih (by omega) J c (by omega) hc h2)
    exact key N (Nat.le_refl _) a c ha hc
  · intro h
    induction h with
    | refl i => exact W_mono (Nat.zero_le _) ((hf i i).2 (.inl rfl))
    | step h1 h2 h3 _ ih => exact W_trans N _ h2 _ _ (W_mono (Nat.zero_le _) ((hf _ _).2 (.inr h3))) (ih h2 hc)
theorem ref_close (sf : D17 → Option D34) {N : Nat} (hN : N < 900) {f : Nat → Nat → Prop} {x : List (List Bool)} (hx : Is x N f) : ∃ M, ref06_Spans.p20 sf fuel fuel (N : Int) x 0 = some (M, ()) ∧ Is M N (W f N) := by
  obtain ⟨M, hM, e⟩ := loopAll (N := N) (fun n x J => ref06_Spans.p20 sf fuel n (N : Int) x J) (fun x => some (x, ())) (fun J x => Is x N (W f J)) x 0 (Nat.zero_le _) hx (by omega)
    (fun n J x hJ hx => by
      have e1 : ref06_Spans.p20 sf fuel (n + 1) (N : Int) x (J : Int) = ref06_Spans.t20 sf (ref06_Spans.p22 sf fuel (ref06_Spans.p20 sf fuel n) fuel) (ref06_Spans.p21 sf fuel) (N : Int) x (J : Int) := rfl
      unfold ref06_Spans.t20 at e1
      rw [iteB_pos (lt_dec hJ)] at e1
      obtain ⟨M, hM, e2⟩ := loopAll (N := N) (fun n' x i => ref06_Spans.p22 sf fuel (ref06_Spans.p20 sf fuel n) n' (N : Int) x (J : Int) i) (fun x => ref06_Spans.p20 sf fuel n (N : Int) x (w64 ((J : Int) + 1))) (fun i x => Is x N (fun a c => if a < i then W f (J + 1) a c else W f J a c)) x 0 (Nat.zero_le _) (hx.to fun a c _ _ => by simp) (by omega)
        (fun n' i x hi hx => by
          have e3 : ref06_Spans.p22 sf fuel (ref06_Spans.p20 sf fuel n) (n' + 1) (N : Int) x (J : Int) (i : Int) = ref06_Spans.t22 sf (ref06_Spans.p23 sf fuel (ref06_Spans.p20 sf fuel n) (ref06_Spans.p22 sf fuel (ref06_Spans.p20 sf fuel n) n') fuel) (ref06_Spans.t24 sf (ref06_Spans.p20 sf fuel n)) (N : Int) x (J : Int) (i : Int) := rfl
          unfold ref06_Spans.t22 at e3
          rw [iteB_pos (lt_dec hi)] at e3
          obtain ⟨M, hM, e4⟩ := loopAll (N := N) (fun m x k => ref06_Spans.p23 sf fuel (ref06_Spans.p20 sf fuel n) (ref06_Spans.p22 sf fuel (ref06_Spans.p20 sf fuel n) n') m (N : Int) x (J : Int) (i : Int) k) (fun x => ref06_Spans.p22 sf fuel (ref06_Spans.p20 sf fuel n) n' (N : Int) x (J : Int) (w64 ((i : Int) + 1)))
            (fun k x => Is x N (fun a c => if a < i ∨ a = i ∧ c < k then W f (J + 1) a c else W f J a c)) x 0 (Nat.zero_le _) (hx.to fun a c _ _ => by simp) (by omega)
            (fun m k x hk hx => by
              have e5 : ref06_Spans.p23 sf fuel (ref06_Spans.p20 sf fuel n) (ref06_Spans.p22 sf fuel (ref06_Spans.p20 sf fuel n) n') (m + 1) (N : Int) x (J : Int) (i : Int) (k : Int) = ref06_Spans.t23 sf (ref06_Spans.t25 sf (ref06_Spans.p23 sf fuel (ref06_Spans.p20 sf fuel n) (ref06_Spans.p22 sf fuel (ref06_Spans.p20 sf fuel n) n') m)) (ref06_Spans.t26 sf (ref06_Spans.p22 sf fuel (ref06_Spans.p20 sf fuel n) n')) (N : Int) x (J : Int) (i : Int) (k : Int) := rfl
              unfold ref06_Spans.t23 ref06_Spans.t25 at e5
              have v1 : (x.getD i []).getD k false = true ↔ W f J i k := by
                rw [hx.val hi hk, if_neg (by omega)]
              have v2 : (x.getD i []).getD J false = true ↔ W f J i J := by
                rw [hx.val hi hJ]
                split
                · exact W_col
                · rfl
              have v3 : (x.getD J []).getD k false = true ↔ W f J J k := by
                rw [hx.val hJ hk]
                split
                · exact W_row
                · rfl
              have key : ∀ b, (b = true ↔ W f (J + 1) i k) → Is (x.set i ((x.getD i []).set k b)) N (fun a c => if a < i ∨ a = i ∧ c < k + 1 then W f (J + 1) a c else W f J a c) := fun b hb => (hx.set hi hk b).to fun a c ha hc => by
                by_cases e : a = i ∧ c = k
                · obtain ⟨rfl, rfl⟩ := e
                  rw [if_pos ⟨rfl, rfl⟩, if_pos (.inr ⟨rfl, Nat.lt_succ_self _⟩), hb]
                · rw [if_neg e]
                  by_cases h : a < i ∨ a = i ∧ c < k
                  · rw [if_pos h, if_pos (by omega)]
                  · rw [if_neg h, if_neg (by omega)]
              rw [iteB_pos (lt_dec hk), withinR_nat (by rw [hx.len]; exact hi), withinR_nat (by rw [hx.len]; exact hi), withinR_nat (by rw [hx.rlen hi]; exact hk)] at e5
              cases hb : (x.getD i []).getD k false with
              | true =>
                rw [hb, iteB_true, withinR_nat (by rw [hx.rlen hi]; exact hk)] at e5
                exact ⟨_, key true ⟨fun _ => .inl (v1.1 hb), fun _ => rfl⟩, e5⟩
              | false =>
                have n1 : ¬ W f J i k := fun h => by have := v1.2 h; rw [hb] at this; cases this
                rw [hb, iteB_false, withinR_nat (by rw [hx.len]; exact hi), withinR_nat (by rw [hx.rlen hi]; exact hJ)] at e5
                cases hc : (x.getD i []).getD J false with
                | true =>
                  rw [hc, iteB_true, withinR_nat (by rw [hx.len]; exact hJ), withinR_nat (by rw [hx.rlen hJ]; exact hk), withinR_nat (by rw [hx.rlen hi]; exact hk)] at e5
                  exact ⟨_, key _ ⟨fun h => .inr ⟨v2.1 hc, v3.1 h⟩, fun h => by
                    rcases h with h | h
                    · exact absurd h n1
                    · exact v3.2 h.2⟩, e5⟩
                | false =>
                  rw [hc, iteB_false, withinR_nat (by rw [hx.rlen hi]; exact hk)] at e5
                  exact ⟨_, key false ⟨fun h => absurd h (by decide), fun h => by
                    rcases h with h | h
                    · exact absurd h n1
                    · have := v2.2 h.1; rw [hc] at this; cases this⟩, e5⟩)
            (fun m x hx => by
              have e5 : ref06_Spans.p23 sf fuel (ref06_Spans.p20 sf fuel n) (ref06_Spans.p22 sf fuel (ref06_Spans.p20 sf fuel n) n') (m + 1) (N : Int) x (J : Int) (i : Int) (N : Int) = ref06_Spans.t23 sf (ref06_Spans.t25 sf (ref06_Spans.p23 sf fuel (ref06_Spans.p20 sf fuel n) (ref06_Spans.p22 sf fuel (ref06_Spans.p20 sf fuel n) n') m)) (ref06_Spans.t26 sf (ref06_Spans.p22 sf fuel (ref06_Spans.p20 sf fuel n) n')) (N : Int) x (J : Int) (i : Int) (N : Int) := rfl
              unfold ref06_Spans.t23 at e5
              rw [e5, iteB_neg lt_no]; rfl)
          refine ⟨M, hM.to fun a c ha hc => ?_, e3.trans e4⟩
          by_cases h : a < i + 1
          · rw [if_pos h, if_pos (by omega)]
          · rw [if_neg h, if_neg (by omega)])
        (fun n' x hx => by
          have e3 : ref06_Spans.p22 sf fuel (ref06_Spans.p20 sf fuel n) (n' + 1) (N : Int) x (J : Int) (N : Int) = ref06_Spans.t22 sf (ref06_Spans.p23 sf fuel (ref06_Spans.p20 sf fuel n) (ref06_Spans.p22 sf fuel (ref06_Spans.p20 sf fuel n) n') fuel) (ref06_Spans.t24 sf (ref06_Spans.p20 sf fuel n)) (N : Int) x (J : Int) (N : Int) := rfl
          unfold ref06_Spans.t22 at e3
          rw [e3, iteB_neg lt_no]; rfl)
      exact ⟨M, hM.to fun a c ha hc => by rw [if_pos ha], e1.trans e2⟩)
    (fun n x hx => by
      have e1 : ref06_Spans.p20 sf fuel (n + 1) (N : Int) x (N : Int) = ref06_Spans.t20 sf (ref06_Spans.p22 sf fuel (ref06_Spans.p20 sf fuel n) fuel) (ref06_Spans.p21 sf fuel) (N : Int) x (N : Int) := rfl
      unfold ref06_Spans.t20 at e1
      rw [e1, iteB_neg lt_no]; rfl)
  exact ⟨M, e, hM⟩
def kidsP (N : Nat) (kind : Int) (G : Nat → Nat → Nat → Prop) (f0 : Nat → Nat → Prop) : Nat → Nat → Nat → Prop
  | 0 => f0
  | q + 1 => stepP N kind (kidsP N kind G f0 q) (G q)
theorem kidsP_UT {N : Nat} {kind : Int} {G : Nat → Nat → Nat → Prop} {f0 : Nat → Nat → Prop} (h0 : UT N f0) : ∀ n, (∀ q, q < n → UT N (G q)) → UT N (kidsP N kind G f0 n)
  | 0, _ => h0
  | n + 1, hG => (kidsP_UT h0 n fun q hq => hG q (by omega)).step (hG n (by omega))
theorem kidsP_cat {N : Nat} {G : Nat → Nat → Nat → Prop} {f0 : Nat → Nat → Prop} : ∀ n a c, kidsP N 2 G f0 n a c ↔ catP N G f0 n a c
  | 0, a, c => Iff.rfl
  | n + 1, a, c => by
    show stepP N 2 _ _ a c ↔ comp N _ _ a c
    unfold stepP
    rw [if_pos rfl]
    exact ⟨fun ⟨k, h1, h2, h3⟩ => ⟨k, h1, (kidsP_cat n _ _).1 h2, h3⟩, fun ⟨k, h1, h2, h3⟩ => ⟨k, h1, (kidsP_cat n _ _).2 h2, h3⟩⟩
theorem kidsP_alt {N : Nat} {kind : Int} (hk : kind ≠ 2) {G : Nat → Nat → Nat → Prop} {f0 : Nat → Nat → Prop} : ∀ n a c, kidsP N kind G f0 n a c ↔ f0 a c ∨ ∃ q, q < n ∧ G q a c
  | 0, a, c => by simp [kidsP]
  | n + 1, a, c => by
    show stepP N kind _ _ a c ↔ _
    unfold stepP
    rw [if_neg hk, kidsP_alt hk n]
    constructor
    · rintro ((h | ⟨q, h1, h2⟩) | h)
      · exact .inl h
      · exact .inr ⟨q, by omega, h2⟩
      · exact .inr ⟨n, by omega, h⟩
    · rintro (h | ⟨q, h1, h2⟩)
      · exact .inl (.inl h)
      · by_cases e : q = n
        · subst e; exact .inr h2
        · exact .inl (.inr ⟨q, by omega, h2⟩)
theorem ref_kids {sf : D17 → Option D34} {s : List UInt8} {d : D2} {N : Nat} {G : Nat → Nat → Nat → Prop} {f0 : Nat → Nat → Prop} {x : List (List Bool)} (hK : KidsAre sf s d.2.2 N G) (hx : Is x N f0) (h0 : 0 < N) (hN : N < 900) (hl : d.2.2.length ≤ 1000) (hu : UT N f0) (hG : ∀ q, q < d.2.2.length → UT N (G q)) :
    ∃ M, ref06_Spans.p7 sf fuel s (N : Int) x d = ref06_Spans.p10 sf fuel (N : Int) M d ∧ Is M N (kidsP N d.1 G f0 d.2.2.length) := by
  obtain ⟨M, hM, e⟩ := loopAll (N := d.2.2.length) (fun n x i => ref06_Spans.p8 sf fuel n s (N : Int) x i d) (fun x => ref06_Spans.p10 sf fuel (N : Int) x d) (fun i x => Is x N (kidsP N d.1 G f0 i)) x 0 (Nat.zero_le _) hx (by omega)
    (fun n i x hi hx => by
      have e1 : ref06_Spans.p8 sf fuel (n + 1) s (N : Int) x (i : Int) d = ref06_Spans.t8 sf (ref06_Spans.p9 sf fuel (ref06_Spans.p8 sf fuel n) fuel) (ref06_Spans.p10 sf fuel) s (N : Int) x (i : Int) d := rfl
      unfold ref06_Spans.t8 at e1
      obtain ⟨Y, e2, hY⟩ := hK i hi
      obtain ⟨o, e3, ho⟩ := ref_step (sf := sf) h0 hN (ref06_Spans.p8 sf fuel n) (s := s) (q := (i : Int)) (d := d) hx hY (kidsP_UT hu i fun q hq => hG q (by omega)) (hG i hi)
      rw [iteB_pos (lt_dec hi), withinR_nat hi, e2, bindR_val] at e1
      exact ⟨o, ho, e1.trans e3⟩)
    (fun n x hx => by
      have e1 : ref06_Spans.p8 sf fuel (n + 1) s (N : Int) x ((d.2.2.length : Nat) : Int) d = ref06_Spans.t8 sf (ref06_Spans.p9 sf fuel (ref06_Spans.p8 sf fuel n) fuel) (ref06_Spans.p10 sf fuel) s (N : Int) x ((d.2.2.length : Nat) : Int) d := rfl
      unfold ref06_Spans.t8 at e1
      rw [e1, iteB_neg lt_no])
  exact ⟨M, e, hM⟩
end Go.Proofs.Ytndffgpoljojaaa.Vm.Rx
namespace Go.Proofs.Ytndffgpoljojaaa.Vm.Rx
open Go Go.Proofs.Ytndffgpoljojaaa.Vm
set_option linter.unusedVariables false
set_option maxRecDepth 100000
def addN (c : D2 → Option Nat) : List N0 → Nat → Option Nat
  | [], n => some n
  | y :: l, n => match c (out0 y) with
    | none => none
    | some m => if 400 < n + m then none else addN c l (n + m)
def bad (x : D2) : Prop := 4 < x.1 ∨ 400 < x.2.2.length ∨ x.1 < 2 ∧ 0 < x.2.2.length ∨ x.1 = 4 ∧ x.2.2.length ≠ 1
instance (x : D2) : Decidable (bad x) := by unfold bad; infer_instance
def cnt : Nat → D2 → Option Nat
  | 0, _ => none
  | e + 1, x => if bad x then none else addN (cnt e) x.2.2 1
theorem addN_le {c : D2 → Option Nat} : ∀ {l : List N0} {n m : Nat}, n ≤ 400 → addN c l n = some m → n ≤ m ∧ m ≤ 400 ∧ ∀ y ∈ l, ∃ k, c (out0 y) = some k
  | [], n, m, h, e => by
    cases e; exact ⟨Nat.le_refl _, h, fun y hy => by cases hy⟩
  | y :: l, n, m, h, e => by
    unfold addN at e
    cases h1 : c (out0 y) with
    | none => rw [h1] at e; cases e
    | some k =>
      rw [h1] at e
      simp only at e
      split at e
      · cases e
      · rename_i h2
        obtain ⟨a1, a2, a3⟩ := addN_le (by omega) e
        exact ⟨by omega, a2, fun z hz => by
          rcases List.mem_cons.1 hz with rfl | hz
          · exact ⟨k, h1⟩
          · exact a3 z hz⟩
theorem cnt_le {e : Nat} {x : D2} {m : Nat} (h : cnt e x = some m) : 1 ≤ m ∧ m ≤ 400 := by
  cases e with
  | zero => cases h
  | succ e =>
    unfold cnt at h
    split at h
    · cases h
    · have := addN_le (by omega) h; exact ⟨this.1, this.2.1⟩
theorem drop_get {β : Type} (l : List β) (i : Nat) (d : β) (h : i < l.length) : l.drop i = l.getD i d :: l.drop (i + 1) := by
  rw [List.getD_eq_getElem?_getD, List.getElem?_eq_getElem h]; exact List.drop_eq_getElem_cons h
def cR : Option Nat → Int | none => -1 | some n => n
def cS : Option Nat → Int | none => 0 | some n => n
theorem rcount_loop {sf : D28 → Option D19} {e : Nat} (he : e ≤ 60) {deep : Int} (hd : w64 (deep + 1) = 61 - (e : Int)) (x : D2) (hl : x.2.2.length ≤ 400) (hsf : ∀ y ∈ x.2.2, sf (out0 y, (61 - (e : Int), ())) = some (cR (cnt e (out0 y)), ())) :
    ∀ (d n i acc : Nat), i + d = x.2.2.length → d < n → acc ≤ 400 → ref06_Count.p5 sf fuel n deep (acc : Int) (i : Int) x = some (cR (addN (cnt e) (x.2.2.drop i) acc), ())
  | 0, n + 1, i, acc, hi, hn, ha => by
    have e1 : ref06_Count.p5 sf fuel (n + 1) deep (acc : Int) (i : Int) x = ref06_Count.t5 sf (ref06_Count.p5 sf fuel n) (ref06_Count.t6 sf) deep (acc : Int) (i : Int) x := rfl
    unfold ref06_Count.t5 at e1
    rw [e1, iteB_neg (decide_eq_false (by omega)), List.drop_of_length_le (by omega)]; rfl
  | d + 1, n + 1, i, acc, hi, hn, ha => by
    have e1 : ref06_Count.p5 sf fuel (n + 1) deep (acc : Int) (i : Int) x = ref06_Count.t5 sf (ref06_Count.p5 sf fuel n) (ref06_Count.t6 sf) deep (acc : Int) (i : Int) x := rfl
    unfold ref06_Count.t5 at e1
    have hil : i < x.2.2.length := by omega
    have hy : x.2.2.getD i dN ∈ x.2.2 := by
      rw [List.getD_eq_getElem?_getD, List.getElem?_eq_getElem hil]; exact List.getElem_mem hil
    rw [iteB_pos (lt_dec hil), withinR_nat hil, hd, hsf _ hy, bindR_val] at e1
    have e1 : _ = iteB (decide (cR (cnt e (out0 (x.2.2.getD i dN))) < 0)) (some ((-1 : Int), ())) (iteB (decide ((400 : Int) < w64 ((acc : Int) + cR (cnt e (out0 (x.2.2.getD i dN)))))) (some ((-1 : Int), ())) (ref06_Count.p5 sf fuel n deep (w64 ((acc : Int) + cR (cnt e (out0 (x.2.2.getD i dN))))) (w64 ((i : Int) + 1)) x)) := e1
    rw [e1, drop_get _ i dN hil]
    unfold addN
    cases hc : cnt e (out0 (x.2.2.getD i dN)) with
    | none => rw [iteB_pos (by decide)]; rfl
    | some m =>
      have hm := cnt_le hc
      rw [show cR (some m) = (m : Int) from rfl, iteB_neg (decide_eq_false (by omega)), show w64 ((acc : Int) + (m : Int)) = ((acc + m : Nat) : Int) by rw [w64_id (by omega) (by omega)]; omega, iteB_dec]
      by_cases h4 : 400 < acc + m
      · rw [if_pos (by omega)]; simp only [if_pos h4]; rfl
      · rw [if_neg (by omega)]; simp only [if_neg h4]; rw [w64_succ (by omega)]
        exact rcount_loop he hd x hl hsf d n (i + 1) (acc + m) (by omega) (by omega) (by omega)
  | _, 0, _, _, _, hn, _ => by omega
theorem rcount_eq : ∀ (e n : Nat) (x : D2), e ≤ 60 → e < n → r_ref06_Count n (x, (61 - (e : Int), ())) = some (cR (cnt e x), ())
  | 0, n + 1, x, _, _ => by
    have e0 : r_ref06_Count (n + 1) (x, (61 - ((0 : Nat) : Int), ())) = ref06_Count.t0 (r_ref06_Count n) (ref06_Count.p1 (r_ref06_Count n) fuel) (x, (61 - ((0 : Nat) : Int), ())) := rfl
    unfold ref06_Count.t0 at e0
    rw [e0, iteB_pos (decide_eq_true (by simp))]; rfl
  | e + 1, n + 1, x, he, hn => by
    have e3 : ∀ b, ref06_Count.p3 (r_ref06_Count n) fuel (61 - ((e + 1 : Nat) : Int)) b x = iteB b (some ((-1 : Int), ())) (ref06_Count.p5 (r_ref06_Count n) fuel fuel (61 - ((e + 1 : Nat) : Int)) ((1 : Nat) : Int) ((0 : Nat) : Int) x) := fun b => rfl
    have e1 : ∀ b, ref06_Count.p1 (r_ref06_Count n) fuel (61 - ((e + 1 : Nat) : Int)) b x = iteB b (some ((-1 : Int), ())) (iteB (decide (x.1 < 2)) (iteB (decide ((0 : Int) < ((x.2.2.length : Nat) : Int))) (ref06_Count.p3 (r_ref06_Count n) fuel (61 - ((e + 1 : Nat) : Int)) true x) (iteB (decide (x.1 = 4)) (ref06_Count.p3 (r_ref06_Count n) fuel (61 - ((e + 1 : Nat) : Int)) (!decide (((x.2.2.length : Nat) : Int) = 1)) x) (ref06_Count.p3 (r_ref06_Count n) fuel (61 - ((e + 1 : Nat) : Int)) false x))) (iteB (decide (x.1 = 4)) (ref06_Count.p3 (r_ref06_Count n) fuel (61 - ((e + 1 : Nat) : Int)) (!decide (((x.2.2.length : Nat) : Int) = 1)) x) (ref06_Count.p3 (r_ref06_Count n) fuel (61 - ((e + 1 : Nat) : Int)) false x))) := fun b => rfl
    have e0 : r_ref06_Count (n + 1) (x, (61 - ((e + 1 : Nat) : Int), ())) = iteB (decide ((60 : Int) < 61 - ((e + 1 : Nat) : Int))) (ref06_Count.p1 (r_ref06_Count n) fuel (61 - ((e + 1 : Nat) : Int)) true x) (iteB (decide ((4 : Int) < x.1)) (ref06_Count.p1 (r_ref06_Count n) fuel (61 - ((e + 1 : Nat) : Int)) true x) (ref06_Count.p1 (r_ref06_Count n) fuel (61 - ((e + 1 : Nat) : Int)) (decide ((400 : Int) < ((x.2.2.length : Nat) : Int))) x)) := rfl
    rw [e0, iteB_neg (decide_eq_false (by omega)), e1, e1, iteB_true]
    unfold cnt
    by_cases h1 : (4 : Int) < x.1
    · rw [iteB_pos (decide_eq_true h1), if_pos (show bad x from .inl h1)]; rfl
    rw [iteB_neg (decide_eq_false h1)]
    by_cases h2 : 400 < x.2.2.length
    · rw [iteB_pos (decide_eq_true (by omega)), if_pos (show bad x from .inr (.inl h2))]; rfl
    rw [iteB_neg (decide_eq_false (by omega)), e3, e3, e3, iteB_true, iteB_false]
    have hd : w64 (61 - ((e + 1 : Nat) : Int) + 1) = 61 - (e : Int) := by rw [w64_id (by omega) (by omega)]; omega
    have hloop := rcount_loop (sf := r_ref06_Count n) (e := e) (by omega) hd x (by omega) (fun y _ => rcount_eq e n (out0 y) (by omega) (by omega)) x.2.2.length fuel 0 1 (by omega) (show x.2.2.length < 4611686018427387904 by omega) (by omega)
    rw [List.drop_zero] at hloop
    rw [hloop]
    by_cases h3 : x.1 < 2 ∧ 0 < x.2.2.length
    · rw [iteB_pos (decide_eq_true h3.1), iteB_pos (decide_eq_true (by omega)), if_pos (show bad x from .inr (.inr (.inl h3)))]; rfl
    by_cases h4 : x.1 = 4 ∧ x.2.2.length ≠ 1
    · have hq : (!decide (((x.2.2.length : Nat) : Int) = 1)) = true := by rw [decide_eq_false (by omega)]; rfl
      rw [iteB_neg (c := decide (x.1 < 2)) (decide_eq_false (by omega)), iteB_pos (c := decide (x.1 = 4)) (decide_eq_true h4.1), iteB_pos hq, if_pos (show bad x from .inr (.inr (.inr h4)))]; rfl
    rw [if_neg (show ¬ bad x from fun h => by rcases h with h | h | h | h; exact h1 h; exact h2 h; exact h3 h; exact h4 h)]
    by_cases h5 : x.1 < 2
    · rw [iteB_pos (decide_eq_true h5), iteB_neg (decide_eq_false (by omega)), iteB_neg (decide_eq_false (by omega))]
    · rw [iteB_neg (decide_eq_false h5)]
      by_cases h6 : x.1 = 4
      · have hq : (!decide (((x.2.2.length : Nat) : Int) = 1)) = false := by rw [decide_eq_true (by omega)]; rfl
        rw [iteB_pos (decide_eq_true h6), iteB_neg hq]
      · rw [iteB_neg (decide_eq_false h6)]
  | _, 0, _, _, hn => by omega
theorem size_loop {sf : D28 → Option D19} {e : Nat} (he : e ≤ 60) {deep : Int} (hd : w64 (deep + 1) = 61 - (e : Int)) (l : List N0) (hl : l.length ≤ 400) (hsf : ∀ y ∈ l, sf (out0 y, (61 - (e : Int), ())) = some (cS (cnt e (out0 y)), ())) :
    ∀ (d n i acc : Nat), i + d = l.length → d < n → acc ≤ 400 → regex_size.p3 sf fuel n deep (acc : Int) l ((l.length : Nat) : Int) (i : Int) = some (cS (addN (cnt e) (l.drop i) acc), ())
  | 0, n + 1, i, acc, hi, hn, ha => by
    have e1 : regex_size.p3 sf fuel (n + 1) deep (acc : Int) l ((l.length : Nat) : Int) (i : Int) = regex_size.t3 sf (regex_size.t4 sf (regex_size.t6 sf (regex_size.p3 sf fuel n))) (regex_size.t5 sf) deep (acc : Int) l ((l.length : Nat) : Int) (i : Int) := rfl
    unfold regex_size.t3 at e1
    rw [e1, iteB_neg (decide_eq_false (by omega)), List.drop_of_length_le (by omega)]; rfl
  | d + 1, n + 1, i, acc, hi, hn, ha => by
    have e1 : regex_size.p3 sf fuel (n + 1) deep (acc : Int) l ((l.length : Nat) : Int) (i : Int) = regex_size.t3 sf (regex_size.t4 sf (regex_size.t6 sf (regex_size.p3 sf fuel n))) (regex_size.t5 sf) deep (acc : Int) l ((l.length : Nat) : Int) (i : Int) := rfl
    have hil : i < l.length := by omega
    have hy : l.getD i dN ∈ l := by
      rw [List.getD_eq_getElem?_getD, List.getElem?_eq_getElem hil]; exact List.getElem_mem hil
    unfold regex_size.t3 regex_size.t4 regex_size.t6 at e1
    rw [iteB_pos (lt_dec hil), withinR_nat hil, hd, hsf _ hy, bindR_val] at e1
    have e1 : _ = iteB (decide (cS (cnt e (out0 (l.getD i dN))) = 0)) (some ((0 : Int), ())) (iteB (decide ((400 : Int) < w64 ((acc : Int) + cS (cnt e (out0 (l.getD i dN)))))) (some ((0 : Int), ())) (regex_size.p3 sf fuel n deep (w64 ((acc : Int) + cS (cnt e (out0 (l.getD i dN))))) l ((l.length : Nat) : Int) (w64 ((i : Int) + 1)))) := e1
    rw [e1, drop_get _ i dN hil]
    unfold addN
    cases hc : cnt e (out0 (l.getD i dN)) with
    | none => rw [iteB_pos (by decide)]; rfl
    | some m =>
      have hm := cnt_le hc
      rw [show cS (some m) = (m : Int) from rfl, iteB_neg (decide_eq_false (by omega)), show w64 ((acc : Int) + (m : Int)) = ((acc + m : Nat) : Int) by rw [w64_id (by omega) (by omega)]; omega, iteB_dec]
      by_cases h4 : 400 < acc + m
      · rw [if_pos (by omega)]; simp only [if_pos h4]; rfl
      · rw [if_neg (by omega)]; simp only [if_neg h4]; rw [w64_succ (by omega)]
        exact size_loop he hd l hl hsf d n (i + 1) (acc + m) (by omega) (by omega) (by omega)
  | _, 0, _, _, _, hn, _ => by omega
theorem size_eq : ∀ (e n : Nat) (x : D2), e ≤ 60 → e < n → r_regex_size n (x, (61 - (e : Int), ())) = some (cS (cnt e x), ())
  | 0, n + 1, x, _, _ => by
    have e0 : r_regex_size (n + 1) (x, (61 - ((0 : Nat) : Int), ())) = regex_size.t0 (r_regex_size n) (regex_size.p1 (r_regex_size n) fuel) (x, (61 - ((0 : Nat) : Int), ())) := rfl
    unfold regex_size.t0 at e0
    rw [e0, iteB_pos (decide_eq_true (by simp))]; rfl
  | e + 1, n + 1, x, he, hn => by
    have e1 : ∀ b, regex_size.p1 (r_regex_size n) fuel (61 - ((e + 1 : Nat) : Int)) ((x.2.2.length : Nat) : Int) b x = iteB b (some ((0 : Int), ())) (iteB (decide ((400 : Int) < ((x.2.2.length : Nat) : Int))) (some ((0 : Int), ())) (regex_size.p3 (r_regex_size n) fuel fuel (61 - ((e + 1 : Nat) : Int)) ((1 : Nat) : Int) x.2.2 ((x.2.2.length : Nat) : Int) ((0 : Nat) : Int))) := fun b => rfl
    have e0 : r_regex_size (n + 1) (x, (61 - ((e + 1 : Nat) : Int), ())) = iteB (decide ((60 : Int) < 61 - ((e + 1 : Nat) : Int))) (regex_size.p1 (r_regex_size n) fuel (61 - ((e + 1 : Nat) : Int)) ((x.2.2.length : Nat) : Int) true x) (iteB (decide ((4 : Int) < x.1)) (regex_size.p1 (r_regex_size n) fuel (61 - ((e + 1 : Nat) : Int)) ((x.2.2.length : Nat) : Int) true x) (iteB (decide (x.1 = 4)) (iteB (!decide (((x.2.2.length : Nat) : Int) = 1)) (regex_size.p1 (r_regex_size n) fuel (61 - ((e + 1 : Nat) : Int)) ((x.2.2.length : Nat) : Int) true x) (iteB (decide (x.1 ≤ 1)) (regex_size.p1 (r_regex_size n) fuel (61 - ((e + 1 : Nat) : Int)) ((x.2.2.length : Nat) : Int) (!decide (((x.2.2.length : Nat) : Int) = 0)) x) (regex_size.p1 (r_regex_size n) fuel (61 - ((e + 1 : Nat) : Int)) ((x.2.2.length : Nat) : Int) false x))) (iteB (decide (x.1 ≤ 1)) (regex_size.p1 (r_regex_size n) fuel (61 - ((e + 1 : Nat) : Int)) ((x.2.2.length : Nat) : Int) (!decide (((x.2.2.length : Nat) : Int) = 0)) x) (regex_size.p1 (r_regex_size n) fuel (61 - ((e + 1 : Nat) : Int)) ((x.2.2.length : Nat) : Int) false x)))) := rfl
    rw [e0, iteB_neg (decide_eq_false (by omega)), e1, e1, e1, iteB_true]
    unfold cnt
    by_cases h1 : (4 : Int) < x.1
    · rw [iteB_pos (decide_eq_true h1), if_pos (show bad x from .inl h1)]; rfl
    rw [iteB_neg (decide_eq_false h1)]
    by_cases h4 : x.1 = 4 ∧ x.2.2.length ≠ 1
    · have hq : (!decide (((x.2.2.length : Nat) : Int) = 1)) = true := by rw [decide_eq_false (by omega)]; rfl
      rw [iteB_pos (decide_eq_true h4.1), iteB_pos hq, if_pos (show bad x from .inr (.inr (.inr h4)))]; rfl
    have hq : ∀ A B : Option D19, iteB (decide (x.1 = 4)) (iteB (!decide (((x.2.2.length : Nat) : Int) = 1)) A B) B = B := fun A B => by
      by_cases h6 : x.1 = 4
      · rw [iteB_pos (decide_eq_true h6), iteB_neg (by rw [decide_eq_true (by omega)]; rfl)]
      · rw [iteB_neg (decide_eq_false h6)]
    rw [hq, iteB_false]
    by_cases h3 : x.1 < 2 ∧ 0 < x.2.2.length
    · rw [iteB_pos (decide_eq_true (by omega)), iteB_pos (c := !decide (((x.2.2.length : Nat) : Int) = 0)) (by rw [decide_eq_false (by omega)]; rfl), if_pos (show bad x from .inr (.inr (.inl h3)))]; rfl
    have hq2 : ∀ A B : Option D19, iteB (decide (x.1 ≤ 1)) (iteB (!decide (((x.2.2.length : Nat) : Int) = 0)) A B) B = B := fun A B => by
      by_cases h6 : x.1 ≤ 1
      · rw [iteB_pos (decide_eq_true h6), iteB_neg (by rw [decide_eq_true (by omega)]; rfl)]
      · rw [iteB_neg (decide_eq_false h6)]
    rw [hq2]
    by_cases h2 : 400 < x.2.2.length
    · rw [iteB_pos (decide_eq_true (by omega)), if_pos (show bad x from .inr (.inl h2))]; rfl
    have hd : w64 (61 - ((e + 1 : Nat) : Int) + 1) = 61 - (e : Int) := by rw [w64_id (by omega) (by omega)]; omega
    have hloop := size_loop (sf := r_regex_size n) (e := e) (by omega) hd x.2.2 (by omega) (fun y _ => size_eq e n (out0 y) (by omega) (by omega)) x.2.2.length fuel 0 1 (by omega) (show x.2.2.length < 4611686018427387904 by omega) (by omega)
    rw [List.drop_zero] at hloop
    rw [if_neg (show ¬ bad x from fun h => by rcases h with h | h | h | h; exact h1 h; exact h2 h; exact h3 h; exact h4 h), hloop, iteB_neg (decide_eq_false (by omega))]
  | _, 0, _, _, hn => by omega
theorem Count_eq (x : D2) : s_ref06_Count (x, ((1 : Int), ())) = some (cR (cnt 60 x), ()) := rcount_eq 60 fuel x (Nat.le_refl _) (show 60 < 4611686018427387904 by omega)
theorem Right_eq (x : D2) : s_regex_Right (x, ()) = some (decide (0 < cS (cnt 60 x)), ()) := by
  have e : s_regex_Right (x, ()) = bindR (r_regex_size fuel (x, (61 - ((60 : Nat) : Int), ()))) fun r1 => some (decide ((0 : Int) < r1.1), ()) := rfl
  rw [e, size_eq 60 fuel x (Nat.le_refl _) (show 60 < 4611686018427387904 by omega), bindR_val]
end Go.Proofs.Ytndffgpoljojaaa.Vm.Rx
namespace Go.Proofs.Ytndffgpoljojaaa.Vm.Rx
open Go Go.Proofs.Ytndffgpoljojaaa.Vm
set_option linter.unusedVariables false
set_option maxRecDepth 100000
theorem cnt_kids {e m : Nat} {x : D2} (h : cnt (e + 1) x = some m) : ¬ bad x ∧ ∀ y ∈ x.2.2, ∃ k, cnt e (out0 y) = some k := by
  unfold cnt at h
  split at h
  · cases h
  · rename_i hb; exact ⟨hb, (addN_le (by omega) h).2.2⟩
def AV : Nat → D2 → Prop
  | 0, _ => True
  | e + 1, x => V x.2.1 ∧ ∀ y ∈ x.2.2, AV e (out0 y)
theorem spans_all (s : List UInt8) (hs' : s.length < 800) : ∀ (e : Nat) (x : D2) (m : Nat), cnt e x = some m → AV e x → ∃ f, UT (s.length + 1) f ∧ ∀ n, e ≤ n →
    (∃ M, r_regex_of n (x, (s, ())) = some (M, ()) ∧ Is M (s.length + 1) f) ∧ ∃ M, r_ref06_Spans n (x, (s, ())) = some (M, ()) ∧ Is M (s.length + 1) f
  | 0, x, m, h, _ => by cases h
  | e + 1, x, m, h, hV => by
    obtain ⟨hb, hk⟩ := cnt_kids h
    obtain ⟨hV1, hV2⟩ := hV
    obtain ⟨k, t, l⟩ := x
    simp only at hk hV1 hV2
    have b1 : ¬ 400 < l.length := fun h => hb (.inr (.inl h))
    have b2 : ¬ (k < 2 ∧ 0 < l.length) := fun h => hb (.inr (.inr (.inl h)))
    have b3 : ¬ (k = 4 ∧ l.length ≠ 1) := fun h => hb (.inr (.inr (.inr h)))
    have hkids : ∀ q, ∃ g : Nat → Nat → Prop, q < l.length → UT (s.length + 1) g ∧ ∀ n, e ≤ n →
        (∃ M, r_regex_of n (out0 (l.getD q dN), (s, ())) = some (M, ()) ∧ Is M (s.length + 1) g) ∧ ∃ M, r_ref06_Spans n (out0 (l.getD q dN), (s, ())) = some (M, ()) ∧ Is M (s.length + 1) g := fun q => by
      by_cases hq : q < l.length
      · have hy : l.getD q dN ∈ l := by
          rw [List.getD_eq_getElem?_getD, List.getElem?_eq_getElem hq]; exact List.getElem_mem hq
        obtain ⟨m', hm'⟩ := hk _ hy
        obtain ⟨g, h1, h2⟩ := spans_all s hs' e (out0 (l.getD q dN)) m' hm' (hV2 _ hy)
        exact ⟨g, fun _ => ⟨h1, h2⟩⟩
      · exact ⟨fun _ _ => False, fun h => absurd h hq⟩
    obtain ⟨G, hG⟩ := Classical.axiomOfChoice hkids
    have hGU : ∀ q, q < l.length → UT (s.length + 1) (G q) := fun q hq => (hG q hq).1
    have hN0 : 0 < s.length + 1 := by omega
    have hN : s.length + 1 < 900 := by omega
    have hUe : UT (s.length + 1) (fun i j => i = j) := fun a c _ _ h => Nat.le_of_eq h
    have hUf : UT (s.length + 1) (fun _ _ => False) := fun a c _ _ h => h.elim
    obtain ⟨M0, z1, z2⟩ := nothing_eq (L := s.length) (by omega)
    obtain ⟨M1, y1, y2⟩ := none_eq (L := s.length) (by omega)
    have hw : w64 (((s.length : Nat) : Int) + 1) = ((s.length + 1 : Nat) : Int) := w64_succ (by omega)
    have oe : ∀ n, r_regex_of (n + 1) ((k, t, l), (s, ())) = iteB (decide (k = 1)) (regex_of.p1 (r_regex_of n) fuel fuel s M0 ((s.length : Nat) : Int) 0 (k, t, l)) (iteB (decide (k = 2)) (regex_of.p2 (r_regex_of n) fuel fuel s M0 l ((l.length : Nat) : Int) 0)
        (iteB (decide (k = 3)) (regex_of.p3 (r_regex_of n) fuel fuel s M1 l ((l.length : Nat) : Int) 0) (iteB (decide (k = 4)) (withinR 0 l.length fun q3 => bindR (r_regex_of n (out0 (l.getD q3 dN), (s, ()))) fun r4 => bindR (s_regex_spans_often (r4.1, ())) fun r5 => some (r5.1, ())) (some (M0, ()))))) := fun n => by
      have e0 : r_regex_of (n + 1) ((k, t, l), (s, ())) = bindR (s_regex_nothing (((s.length : Nat) : Int), ())) fun r1 => iteB (decide (k = 1)) (regex_of.p1 (r_regex_of n) fuel fuel s r1.1 ((s.length : Nat) : Int) 0 (k, t, l)) (iteB (decide (k = 2)) (regex_of.p2 (r_regex_of n) fuel fuel s r1.1 l ((l.length : Nat) : Int) 0)
        (iteB (decide (k = 3)) (bindR (s_regex_none (((s.length : Nat) : Int), ())) fun r2 => regex_of.p3 (r_regex_of n) fuel fuel s r2.1 l ((l.length : Nat) : Int) 0) (iteB (decide (k = 4)) (withinR 0 l.length fun q3 => bindR (r_regex_of n (out0 (l.getD q3 dN), (s, ()))) fun r4 => bindR (s_regex_spans_often (r4.1, ())) fun r5 => some (r5.1, ())) (some (r1.1, ()))))) := rfl
      rw [e0, z1, bindR_val, y1, bindR_val]
    have re : ∀ n, r_ref06_Spans (n + 1) ((k, t, l), (s, ())) = iteB (decide (k = 1)) (ref06_Spans.p3 (r_ref06_Spans n) fuel fuel s (List.replicate (s.length + 1) (List.replicate (s.length + 1) false)) 0 (k, t, l))
        (iteB (!decide (k = 3)) (ref06_Spans.p6 (r_ref06_Spans n) fuel fuel s ((s.length + 1 : Nat) : Int) (List.replicate (s.length + 1) (List.replicate (s.length + 1) false)) 0 (k, t, l)) (ref06_Spans.p7 (r_ref06_Spans n) fuel s ((s.length + 1 : Nat) : Int) (List.replicate (s.length + 1) (List.replicate (s.length + 1) false)) (k, t, l))) := fun n => by
      have e0 : r_ref06_Spans (n + 1) ((k, t, l), (s, ())) = ref06_Spans.p1 (r_ref06_Spans n) fuel fuel s (w64 (((s.length : Nat) : Int) + 1)) [] 0 (k, t, l) := rfl
      rw [e0, hw, ref_rows _ hN]; rfl
    have r10 : ∀ n M, ref06_Spans.p10 (r_ref06_Spans n) fuel ((s.length + 1 : Nat) : Int) M (k, t, l) = iteB (decide (k = 4)) (ref06_Spans.p20 (r_ref06_Spans n) fuel fuel ((s.length + 1 : Nat) : Int) M 0) (some (M, ())) := fun _ _ => rfl
    have K1 : ∀ n, e ≤ n → KidsAre (r_regex_of n) s l (s.length + 1) G := fun n hn q hq => ((hG q hq).2 n hn).1
    have K2 : ∀ n, e ≤ n → KidsAre (r_ref06_Spans n) s l (s.length + 1) G := fun n hn q hq => ((hG q hq).2 n hn).2
    have rest : ∀ n, e ≤ n → k ≠ 1 → k ≠ 3 → ∃ M, r_ref06_Spans (n + 1) ((k, t, l), (s, ())) = iteB (decide (k = 4)) (ref06_Spans.p20 (r_ref06_Spans n) fuel fuel ((s.length + 1 : Nat) : Int) M 0) (some (M, ())) ∧ Is M (s.length + 1) (kidsP (s.length + 1) k G (fun i j => i = j) l.length) := fun n hn k1 k3 => by
      obtain ⟨M, e1, h1⟩ := ref_diag (r_ref06_Spans n) hN (s := s) (d := (k, t, l)) (none_is (s.length + 1))
      obtain ⟨M', e2, h2⟩ := ref_kids (d := (k, t, l)) (K2 n hn) h1 hN0 hN (show l.length ≤ 1000 by omega) hUe hGU
      exact ⟨M', by rw [re, iteB_neg (decide_eq_false k1), iteB_pos (by rw [decide_eq_false k3]; rfl), e1, e2, r10], h2⟩
    by_cases k1 : k = 1
    · refine ⟨oneP s t, fun a c _ _ h => by have := h.2.1; omega, fun n hn => ?_⟩
      obtain ⟨n, rfl⟩ : ∃ n', n = n' + 1 := ⟨n - 1, by omega⟩
      obtain ⟨M, e1, h1⟩ := of_one (sf := r_regex_of n) (k := k) (l := l) hV1 hs' z2
      obtain ⟨M', e2, h2⟩ := ref_one (r_ref06_Spans n) (k := k) (l := l) hV1 hs' (none_is (s.length + 1))
      exact ⟨⟨M, by rw [oe, iteB_pos (decide_eq_true k1)]; exact e1, h1⟩, M', by rw [re, iteB_pos (decide_eq_true k1)]; exact e2, h2⟩
    by_cases k2 : k = 2
    · subst k2
      refine ⟨catP (s.length + 1) G (fun i j => i = j) l.length, fun a c ha hc h => kidsP_UT hUe l.length hGU a c ha hc ((kidsP_cat _ _ _).2 h), fun n hn => ?_⟩
      obtain ⟨n, rfl⟩ : ∃ n', n = n' + 1 := ⟨n - 1, by omega⟩
      obtain ⟨M, e1, h1⟩ := of_cat (K1 n (by omega)) z2 hN0 hN (show l.length ≤ 1000 by omega)
      obtain ⟨M', e2, h2⟩ := rest n (by omega) (by decide) (by decide)
      exact ⟨⟨M, by rw [oe, iteB_neg (by decide), iteB_pos (by decide)]; exact e1, h1⟩, M', by rw [e2, iteB_neg (by decide)], h2.to fun a c _ _ => kidsP_cat _ _ _⟩
    by_cases k3 : k = 3
    · subst k3
      have hst : ∀ a c, kidsP (s.length + 1) 3 G (fun _ _ => False) l.length a c ↔ ∃ q, q < l.length ∧ G q a c := fun a c => (kidsP_alt (by decide) _ a c).trans ⟨fun h => h.resolve_left id, .inr⟩
      refine ⟨fun a c => ∃ q, q < l.length ∧ G q a c, fun a c ha hc h => kidsP_UT hUf l.length hGU a c ha hc ((hst a c).2 h), fun n hn => ?_⟩
      obtain ⟨n, rfl⟩ : ∃ n', n = n' + 1 := ⟨n - 1, by omega⟩
      obtain ⟨M, e1, h1⟩ := of_alt (K1 n (by omega)) y2 hN0 hN (show l.length ≤ 1000 by omega)
      obtain ⟨M', e2, h2⟩ := ref_kids (d := (3, t, l)) (K2 n (by omega)) (none_is (s.length + 1)) hN0 hN (show l.length ≤ 1000 by omega) hUf hGU
      exact ⟨⟨M, by rw [oe, iteB_neg (by decide), iteB_neg (by decide), iteB_pos (by decide)]; exact e1, h1.to fun a c _ _ => ⟨fun h => h.resolve_left id, .inr⟩⟩, M', by rw [re, iteB_neg (by decide), iteB_neg (by decide), e2, r10, iteB_neg (by decide)], h2.to fun a c _ _ => hst a c⟩
    by_cases k4 : k = 4
    · subst k4
      have hl1 : l.length = 1 := by omega
      have hG0 : UT (s.length + 1) (G 0) := hGU 0 (by omega)
      refine ⟨Reach (s.length + 1) (G 0), fun a c _ _ h => h.le, fun n hn => ?_⟩
      obtain ⟨n, rfl⟩ : ∃ n', n = n' + 1 := ⟨n - 1, by omega⟩
      obtain ⟨Y, e1, hY⟩ := K1 n (by omega) 0 (by omega)
      obtain ⟨M, e3, h3⟩ := often_eq hY hN0 hN
      obtain ⟨M', e2, h2⟩ := rest n (by omega) (by decide) (by decide)
      obtain ⟨M2, e4, h4⟩ := ref_close (r_ref06_Spans n) hN h2
      refine ⟨⟨M, ?_, h3⟩, M2, by rw [e2, iteB_pos (by decide)]; exact e4, h4.to fun a c ha hc => W_reach (fun a c => ?_) hG0 ha hc⟩
      · rw [oe, iteB_neg (by decide), iteB_neg (by decide), iteB_neg (by decide), iteB_pos (by decide), withinR_zero (by omega), e1, bindR_val, e3, bindR_val]
      · rw [hl1, kidsP_alt (by decide)]
        constructor
        · rintro (h | ⟨q, h1, h2⟩)
          · exact .inl h
          · have : q = 0 := by omega
            subst this; exact .inr h2
        · rintro (h | h)
          · exact .inl h
          · exact .inr ⟨0, by omega, h⟩
    · have hlt : ¬ 4 < k := fun h => hb (.inl h)
      have hl0 : l.length = 0 := by omega
      refine ⟨fun i j => i = j, hUe, fun n hn => ?_⟩
      obtain ⟨n, rfl⟩ : ∃ n', n = n' + 1 := ⟨n - 1, by omega⟩
      obtain ⟨M', e2, h2⟩ := rest n (by omega) k1 k3
      rw [hl0] at h2
      refine ⟨⟨M0, ?_, z2⟩, M', by rw [e2, iteB_neg (decide_eq_false k4)], h2⟩
      rw [oe, iteB_neg (decide_eq_false k1), iteB_neg (decide_eq_false k2), iteB_neg (decide_eq_false k3), iteB_neg (decide_eq_false k4)]
theorem Matches_no {x : D2} {s : List UInt8} (h : cnt 60 x = none) : s_regex_Matches (x, (s, ())) = some (false, ()) := by
  have e : s_regex_Matches (x, (s, ())) = regex_Matches.t0 (x, (s, ())) := rfl
  unfold regex_Matches.t0 at e
  rw [e, Right_eq, bindR_val, h, iteB_neg (by decide)]
theorem Matches_eq {x : D2} {s : List UInt8} {m : Nat} (hs' : s.length < 800) (h : cnt 60 x = some m) (hV : AV 60 x) : ∃ b, s_regex_Matches (x, (s, ())) = some (b, ()) ∧ s_ref06_Matches (x, (s, ())) = some (b, ()) := by
  obtain ⟨f, _, hf⟩ := spans_all s hs' 60 x m h hV
  obtain ⟨⟨M, e1, h1⟩, M', e2, h2⟩ := hf fuel (by decide +kernel)
  have g1 : s_regex_of (x, (s, ())) = some (M, ()) := e1
  have g2 : s_ref06_Spans (x, (s, ())) = some (M', ()) := e2
  have hm := cnt_le h
  have hL : s.length < s.length + 1 := by omega
  have h0 : 0 < s.length + 1 := by omega
  have e : s_regex_Matches (x, (s, ())) = regex_Matches.t0 (x, (s, ())) := rfl
  have e' : s_ref06_Matches (x, (s, ())) = ref06_Matches.t0 (x, (s, ())) := rfl
  unfold regex_Matches.t0 at e
  unfold ref06_Matches.t0 at e'
  have hw : ∀ {M : List (List Bool)} (hM : Is M (s.length + 1) f), (withinR 0 M.length fun q3 => withinR ((s.length : Nat) : Int) (List.length (M.getD q3 [])) fun q4 => some ((M.getD q3 []).getD q4 false, ())) = some ((M.getD 0 []).getD s.length false, ()) := fun {M} hM => by
    rw [withinR_zero (by rw [hM.len]; exact h0), withinR_nat (by rw [hM.rlen h0]; exact hL)]
  refine ⟨(M.getD 0 []).getD s.length false, ?_, ?_⟩
  · rw [e, Right_eq, bindR_val, h]
    have c1 : decide ((0 : Int) < cS (some m)) = true := decide_eq_true (show (0 : Int) < (m : Int) by omega)
    simp only [g1, bindR_val, c1, iteB_true]
    exact hw h1
  · rw [e']
    simp only [g2, bindR_val]
    rw [hw h2]
    have a1 := h1.val h0 hL
    have a2 := h2.val h0 hL
    have : (M'.getD 0 []).getD s.length false = (M.getD 0 []).getD s.length false := by
      cases q1 : (M'.getD 0 []).getD s.length false <;> cases q2 : (M.getD 0 []).getD s.length false
      · rfl
      · rw [q2] at a1; rw [q1] at a2; exact absurd (a2.2 (a1.1 rfl)) (by decide)
      · rw [q2] at a1; rw [q1] at a2; exact absurd (a1.2 (a2.1 rfl)) (by decide)
      · rfl
    rw [this]
abbrev zN : List Int := [0, 0, 0, 0]
abbrev x1 : D2 := (3, (zN, [.mk 1 [0, 8589934592, 0, 0] [], .mk 4 zN [.mk 1 [0, 17179869184, 0, 0] []]]))
abbrev x2 : D2 := (2, (zN, [.mk 1 [0, 60129542144, 0, 0] [], .mk 4 zN [.mk 1 [0, 60129542144, 0, 0] []]]))
theorem par1 : s_Parse ([97, 124, 98, 42], ()) = some ((x1, 0), ()) := by kernel_rfl
theorem par2 : s_Parse ([91, 97, 45, 99, 93, 43], ()) = some ((x2, 0), ()) := by kernel_rfl
theorem par3 : s_Parse ([42], ()) = some ((zRx, 20), ()) := by kernel_rfl
theorem par4 : s_Parse ([91, 93], ()) = some ((zRx, 20), ()) := by kernel_rfl
theorem par5 : s_Parse ([91, 98, 45, 97, 93], ()) = some ((zRx, 20), ()) := by kernel_rfl
theorem par6 : s_Parse ([97, 92, 113], ()) = some ((zRx, 20), ()) := by kernel_rfl
theorem AV1 : AV 60 x1 := by
  have v0 : V zN := ⟨0, 0, 0, 0, rfl, by omega, by omega, by omega, by omega⟩
  have v1 : V [0, 8589934592, 0, 0] := ⟨0, 8589934592, 0, 0, rfl, by omega, by omega, by omega, by omega⟩
  have v2 : V [0, 17179869184, 0, 0] := ⟨0, 17179869184, 0, 0, rfl, by omega, by omega, by omega, by omega⟩
  refine ⟨v0, fun y hy => ?_⟩
  rcases List.mem_cons.1 hy with rfl | hy
  · exact ⟨v1, fun y hy => by cases hy⟩
  · rw [List.mem_singleton.1 hy]
    refine ⟨v0, fun y hy => ?_⟩
    rw [List.mem_singleton.1 hy]
    exact ⟨v2, fun y hy => by cases hy⟩
theorem AV2 : AV 60 x2 := by
  have v0 : V zN := ⟨0, 0, 0, 0, rfl, by omega, by omega, by omega, by omega⟩
  have v1 : V [0, 60129542144, 0, 0] := ⟨0, 60129542144, 0, 0, rfl, by omega, by omega, by omega, by omega⟩
  refine ⟨v0, fun y hy => ?_⟩
  rcases List.mem_cons.1 hy with rfl | hy
  · exact ⟨v1, fun y hy => by cases hy⟩
  · rw [List.mem_singleton.1 hy]
    refine ⟨v0, fun y hy => ?_⟩
    rw [List.mem_singleton.1 hy]
    exact ⟨v1, fun y hy => by cases hy⟩
theorem mat {x : D2} {s : List UInt8} {b : Bool} (hV : AV 60 x) (hc : cnt 60 x = some 4) (hs' : s.length < 800) (hr : s_ref06_Matches (x, (s, ())) = some (b, ())) : s_regex_Matches (x, (s, ())) = some (b, ()) := by
  obtain ⟨c, q1, q2⟩ := Matches_eq hs' hc hV
  rw [q1, ← q2, hr]
theorem cnt1 : cnt 60 x1 = some 4 := by kernel_rfl
theorem cnt2 : cnt 60 x2 = some 4 := by kernel_rfl
theorem alive6 : s_law06_alive () = some (true, ()) := by
  have e : s_law06_alive () = law06_alive.t0 () := rfl
  unfold law06_alive.t0 at e
  have m1 := mat (s := [97]) (b := true) AV1 cnt1 (by decide) (by kernel_rfl)
  have m2 := mat (s := []) (b := true) AV1 cnt1 (by decide) (by kernel_rfl)
  have m3 := mat (s := [98, 98, 98]) (b := true) AV1 cnt1 (by decide) (by kernel_rfl)
  have m4 := mat (s := [97, 98]) (b := false) AV1 cnt1 (by decide) (by kernel_rfl)
  have m5 := mat (s := [99, 97, 98]) (b := true) AV2 cnt2 (by decide) (by kernel_rfl)
  rw [e, par1, par2, par3, par4, par5, par6]
  simp only [bindR_val, m1, m2, m3, m4, m5]
  rfl
theorem matchesLaw (x : D2) (s : List UInt8) (hV : AV 60 x) : s_law06_RegexMatches (x, (s, ())) = some (true, ()) := by
  have e : s_law06_RegexMatches (x, (s, ())) = law06_RegexMatches.t0 (x, (s, ())) := rfl
  unfold law06_RegexMatches.t0 at e
  rw [e, alive6, bindR_val, iteB_neg (c := notB true) rfl]
  by_cases hl : (30 : Int) < ((s.length : Nat) : Int)
  · rw [iteB_pos (decide_eq_true hl)]
  rw [iteB_neg (decide_eq_false hl)]
  simp only [Count_eq, Right_eq, bindR_val]
  cases hc : cnt 60 x with
  | none =>
    have eE : s_regex_Empty (x, ()) = bindR (s_regex_Matches (x, ([], ()))) fun r1 => some (r1.1, ()) := rfl
    have eS : s_regex_Sets (x, ()) = bindR (s_regex_Right (x, ())) fun r1 => iteB (notB r1.1) (some ([], ())) (bindR (s_regex_sets (x, ())) fun r2 => some (r2.1, ())) := rfl
    rw [eE, eS, Right_eq, hc, Matches_no hc, Matches_no hc]
    rfl
  | some m =>
    have hm := cnt_le hc
    have eE : s_regex_Empty (x, ()) = bindR (s_regex_Matches (x, ([], ()))) fun r1 => some (r1.1, ()) := rfl
    obtain ⟨b, q1, q2⟩ := Matches_eq (s := s) (by omega) hc hV
    obtain ⟨b', q3, q4⟩ := Matches_eq (s := []) (by simp) hc hV
    rw [eE, q1, q2, q3, q4]
    have c1 : decide ((0 : Int) < cS (some m)) = true := decide_eq_true (show (0 : Int) < (m : Int) by omega)
    have c2 : decide ((0 : Int) < cR (some m)) = true := decide_eq_true (show (0 : Int) < (m : Int) by omega)
    have c3 : decide (cR (some m) < 0) = false := decide_eq_false (show ¬ (m : Int) < 0 by omega)
    simp only [c1, c2, c3, bindR_val, beq_self_eq_true, Bool.not_true, iteB_false, iteB_true, iteB_dec, ite_self]
end Go.Proofs.Ytndffgpoljojaaa.Vm.Rx
namespace Go.Proofs.Ytndffgpoljojaaa.Vm.Rx
open Go Go.Proofs.Ytndffgpoljojaaa.Vm
set_option linter.unusedVariables false
set_option maxRecDepth 100000
def NB : Nb cx := { ok := fun n => match n with | 0 => true | _ => false, wf := fun n x => match n, x with | 0, x => ∀ e, AV e (out0 x) | _ + 1, _ => True, bulk := fun _ _ => 0 }
theorem V_of {l : List Int} (hl : l.length = 4) (h : ∀ y ∈ l, wfInt .u64 y) : V l := by
  have hb : ∀ y ∈ l, 0 ≤ y ∧ y < 18446744073709551616 := fun y hy => by
    have := h y hy
    simp only [wfInt, IntKind.min, IntKind.max, IntKind.signed, IntKind.bits] at this
    simp at this; omega
  match l, hl with
  | [a, b, c, d], _ =>
    have h1 := hb a (by simp); have h2 := hb b (by simp); have h3 := hb c (by simp); have h4 := hb d (by simp)
    refine ⟨a.toNat, b.toNat, c.toNat, d.toNat, ?_, by omega, by omega, by omega, by omega⟩
    rw [Int.toNat_of_nonneg h1.1, Int.toNat_of_nonneg h2.1, Int.toNat_of_nonneg h3.1, Int.toNat_of_nonneg h4.1]
theorem AV_of {x : D2} (h : WfB NB t7 x) : ∀ e, AV e x := fun e => by
  obtain ⟨_, ⟨h2, h3⟩, _, h5⟩ := h
  cases e with
  | zero => trivial
  | succ e => exact ⟨V_of h2 h3, fun y hy => h5 y hy e⟩
theorem NBok : NB.Ok := by
  refine ⟨cxOk, fun n hn => ?_, fun n hn => ?_, fun n x hn h => ?_, fun n x hn => Nat.zero_le _⟩
  · match n, hn with
    | 0, _ => rfl
  · match n, hn with
    | 0, _ => rfl
  · match n, x, hn, h with
    | 0, x, _, h => exact AV_of h
theorem F_matches : F_law06_RegexMatches.f = s_law06_RegexMatches := by kernel_rfl
end Go.Proofs.Ytndffgpoljojaaa.Vm.Rx
