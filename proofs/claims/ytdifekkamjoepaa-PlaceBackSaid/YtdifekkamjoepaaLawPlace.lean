/- The plain laws of places. -/
import Derived.Test.YtdifekkamjoepaaFnsPlace
import Derived.Test.YtdifekkamjoepaaLaw
namespace Go.Proofs.Ytdifekkamjoepaa.Vm.Rp
open Go Go.Proofs.Ytdifekkamjoepaa.Vm
set_option linter.unusedVariables false

/-! ### Lines of a text -/
theorem take_cons (c : UInt8) (s : List UInt8) (j : Nat) : (c :: s).take (j + 1) = c :: s.take j := rfl
theorem nl_nil : nl [] = 0 := rfl
theorem sg_nil : sg [] = 0 := rfl
theorem ln_iff : ∀ (s : List UInt8) (k j : Nat), 1 ≤ k → k ≤ nl s → (nl (s.take j) < k ↔ j < ln s k)
  | [], k, j, h1, h2 => by rw [nl_nil] at h2; omega
  | c :: s, k, j, h1, h2 => by
    rw [nl_cons] at h2
    cases j with
    | zero =>
      simp only [List.take_zero, nl_nil, ln]
      by_cases hc : c = 10
      · rw [if_pos hc]; by_cases hk : k = 1
        · rw [if_pos hk]; omega
        · rw [if_neg hk]; omega
      · rw [if_neg hc]; omega
    | succ j =>
      rw [take_cons, nl_cons, ln]
      by_cases hc : c = 10
      · rw [if_pos hc] at h2
        rw [if_pos hc, if_pos hc]
        by_cases hk : k = 1
        · rw [if_pos hk]; omega
        · rw [if_neg hk]
          have := ln_iff s (k - 1) j (by omega) (by omega)
          omega
      · rw [if_neg hc] at h2
        rw [if_neg hc, if_neg hc]
        have := ln_iff s k j h1 (by omega)
        omega
theorem nl_step (s : List UInt8) (j : Nat) (h : j < s.length) : nl (s.take (j + 1)) = nl (s.take j) + (if s.getD j 0 = 10 then 1 else 0) := by
  rw [take_snoc s j h, nl_append, nl_cons, nl_nil]; omega
theorem nl_mono (s : List UInt8) (i j : Nat) (h : i ≤ j) : nl (s.take i) ≤ nl (s.take j) := by
  have : s.take i = (s.take j).take i := by rw [List.take_take, Nat.min_eq_left h]
  rw [this]
  have e := nl_append ((s.take j).take i) ((s.take j).drop i)
  rw [List.take_append_drop] at e
  omega
theorem nl_take_le (s : List UInt8) (j : Nat) : nl (s.take j) ≤ nl s := by
  have e := nl_append (s.take j) (s.drop j)
  rw [List.take_append_drop] at e
  omega
def st (s : List UInt8) (k : Nat) : Nat := if k = 0 then 0 else ln s k
def en (s : List UInt8) (k : Nat) : Nat := if k + 1 ≤ nl s then ln s (k + 1) - 1 else s.length
def li (s : List UInt8) (k : Nat) : List UInt8 := (s.take (en s k)).drop (st s k)
theorem st_le (s : List UInt8) (k : Nat) : st s k ≤ s.length := by
  unfold st; split
  · omega
  · exact ln_le s k
theorem st_iff (s : List UInt8) (k j : Nat) (h : k ≤ nl s) : nl (s.take j) < k ↔ j < st s k := by
  unfold st
  by_cases h0 : k = 0
  · rw [if_pos h0]; omega
  · rw [if_neg h0]; exact ln_iff s k j (by omega) h
theorem en_iff (s : List UInt8) (k j : Nat) (h : k ≤ nl s) (hj : j ≤ s.length) : nl (s.take j) ≤ k ↔ j ≤ en s k := by
  unfold en
  by_cases h0 : k + 1 ≤ nl s
  · rw [if_pos h0]
    have := ln_iff s (k + 1) j (by omega) h0
    have := ln_iff s (k + 1) 0 (by omega) h0
    rw [List.take_zero, nl_nil] at this
    omega
  · rw [if_neg h0]
    have := nl_take_le s j
    omega
theorem en_le (s : List UInt8) (k : Nat) : en s k ≤ s.length := by
  unfold en; split
  · have := ln_le s (k + 1); omega
  · omega
theorem st_en (s : List UInt8) (k : Nat) (h : k ≤ nl s) : st s k ≤ en s k := by
  have h1 := (en_iff s k (st s k) h (st_le s k)).1
  apply h1
  rcases Nat.lt_or_ge k (nl (s.take (st s k))) with h2 | h2
  · exfalso
    have hp : 0 < st s k := by
      rcases Nat.eq_zero_or_pos (st s k) with e | e
      · rw [e, List.take_zero, nl_nil] at h2; omega
      · exact e
    have h3 := nl_step s (st s k - 1) (by have := st_le s k; omega)
    rw [show st s k - 1 + 1 = st s k by omega] at h3
    have h4 := (st_iff s k (st s k - 1) h).2 (by omega)
    split at h3 <;> omega
  · exact h2
theorem nl_in (s : List UInt8) (k j : Nat) (h : k ≤ nl s) (h1 : st s k ≤ j) (h2 : j ≤ en s k) : nl (s.take j) = k := by
  have a := (en_iff s k j h (by have := en_le s k; omega)).2 h2
  have b := (st_iff s k j h)
  omega
theorem no_nl (s : List UInt8) (k j : Nat) (h : k ≤ nl s) (h1 : st s k ≤ j) (h2 : j < en s k) : s.getD j 0 ≠ 10 := by
  have a := nl_in s k j h h1 (by omega)
  have b := nl_in s k (j + 1) h (by omega) (by omega)
  have c := nl_step s j (by have := en_le s k; omega)
  intro e
  rw [if_pos e] at c
  omega
theorem nl_end (s : List UInt8) (k : Nat) (h : k ≤ nl s) (h1 : en s k < s.length) : s.getD (en s k) 0 = 10 := by
  have a := nl_in s k (en s k) h (st_en s k h) (Nat.le_refl _)
  have b := en_iff s k (en s k + 1) h (by omega)
  have c := nl_step s (en s k) h1
  by_cases e : s.getD (en s k) 0 = 10
  · exact e
  · rw [if_neg e] at c; omega
theorem li_len (s : List UInt8) (k : Nat) (h : k ≤ nl s) : (li s k).length = en s k - st s k := by
  unfold li; rw [List.length_drop, List.length_take]; have := en_le s k; omega
theorem sg_li (s : List UInt8) (k : Nat) (h : k ≤ nl s) : sg (s.take (en s k)) = sg (s.take (st s k)) + sg (li s k) := by
  have e : s.take (en s k) = s.take (st s k) ++ li s k := by
    have := List.take_append_drop (st s k) (s.take (en s k))
    rw [List.take_take, Nat.min_eq_left (st_en s k h)] at this
    exact this.symm
  rw [e, sg_append]
theorem st_append (p q : List UInt8) (k : Nat) (h : k ≤ nl p) : st (p ++ q) k = st p k := by
  unfold st
  by_cases h0 : k = 0
  · rw [if_pos h0, if_pos h0]
  · rw [if_neg h0, if_neg h0, ln_append p q k (by omega), if_pos h]
/-- Where the line of a text's end begins; how many signs stand behind that. -/
def ls (p : List UInt8) : Nat := st p (nl p)
def mc (p : List UInt8) : Nat := sg (p.drop (ls p))
theorem ls_le (p : List UInt8) : ls p ≤ p.length := st_le p _
theorem mc_le (p : List UInt8) : mc p ≤ p.length := by
  unfold mc; have := sg_le (p.drop (ls p)); rw [List.length_drop] at this; omega
theorem ls_nl (p : List UInt8) : ls (p ++ [10]) = p.length + 1 := by
  unfold ls st
  rw [nl_append, if_neg (by rw [show nl [10] = 1 from rfl]; omega), show nl [10] = 1 from rfl, ln_append p [10] _ (by omega), if_neg (by omega), show nl p + 1 - nl p = 1 by omega]; rfl
theorem ls_other (p : List UInt8) (b : UInt8) (h : b ≠ 10) : ls (p ++ [b]) = ls p := by
  unfold ls
  have : nl (p ++ [b]) = nl p := by rw [nl_append, nl_cons, if_neg h, nl_nil]; omega
  rw [this, st_append p [b] _ (Nat.le_refl _)]
theorem mc_nl (p : List UInt8) : mc (p ++ [10]) = 0 := by
  unfold mc; rw [ls_nl, List.drop_of_length_le (by simp)]; rfl
theorem mc_other (p : List UInt8) (b : UInt8) (h : b ≠ 10) : mc (p ++ [b]) = mc p + (if isF b = true then 0 else 1) := by
  unfold mc
  rw [ls_other p b h, List.drop_append_of_le_length (ls_le p), sg_append, sg_cons, sg_nil]; omega

/-! ### Cut -/
def cut : List UInt8 → Nat → Nat
  | [], _ => 0
  | c :: t, n => if isF c = true then 1 + cut t n else if n = 0 then 0 else 1 + cut t (n - 1)
theorem cut_le : ∀ (t : List UInt8) (n : Nat), cut t n ≤ t.length
  | [], n => by simp [cut]
  | c :: t, n => by
    have h1 := cut_le t n
    have h2 := cut_le t (n - 1)
    simp only [cut, List.length_cons]
    split
    · omega
    · split <;> omega
theorem cut_gt : ∀ (t : List UInt8) (n j : Nat), cut t n < j → j ≤ t.length → n < sg (t.take j)
  | [], n, j, h, hj => by simp at hj; omega
  | c :: t, n, 0, h, hj => by omega
  | c :: t, n, j + 1, h, hj => by
    rw [take_cons, sg_cons]
    simp only [cut] at h
    simp only [List.length_cons] at hj
    by_cases hc : isF c = true
    · rw [if_pos hc] at h
      rw [if_pos hc]
      have := cut_gt t n j (by omega) (by omega); omega
    · rw [if_neg hc] at h
      rw [if_neg hc]
      by_cases h0 : n = 0
      · omega
      · rw [if_neg h0] at h
        have := cut_gt t (n - 1) j (by omega) (by omega); omega
theorem cut_sg : ∀ (t : List UInt8) (n : Nat), sg (t.take (cut t n)) ≤ n
  | [], n => by simp [cut, sg_nil]
  | c :: t, n => by
    simp only [cut]
    by_cases hc : isF c = true
    · rw [if_pos hc, Nat.add_comm, take_cons, sg_cons, if_pos hc]; have := cut_sg t n; omega
    · rw [if_neg hc]
      by_cases h0 : n = 0
      · rw [if_pos h0, List.take_zero, sg_nil]; omega
      · rw [if_neg h0, Nat.add_comm, take_cons, sg_cons, if_neg hc]; have := cut_sg t (n - 1); omega
theorem cut_edge : ∀ (t : List UInt8) (n : Nat), cut t n = t.length ∨ isF (t.getD (cut t n) 0) = false
  | [], n => by simp [cut]
  | c :: t, n => by
    simp only [cut, List.length_cons]
    by_cases hc : isF c = true
    · rw [if_pos hc]
      rcases cut_edge t n with h | h
      · left; omega
      · right; rw [Nat.add_comm, List.getD_cons_succ]; exact h
    · rw [if_neg hc]
      by_cases h0 : n = 0
      · right; rw [if_pos h0]; simpa using hc
      · rw [if_neg h0]
        rcases cut_edge t (n - 1) with h | h
        · left; omega
        · right; rw [Nat.add_comm, List.getD_cons_succ]; exact h
theorem cut_of : ∀ (t : List UInt8) (j : Nat), j ≤ t.length → (j = t.length ∨ isF (t.getD j 0) = false) → cut t (sg (t.take j)) = j
  | [], j, h, _ => by simp at h; subst h; rfl
  | c :: t, 0, h, he => by
    have hc : isF c = false := by
      rcases he with he | he
      · simp at he
      · simpa using he
    simp [cut, sg_nil, hc]
  | c :: t, j + 1, h, he => by
    simp only [List.length_cons] at h
    have ih := cut_of t j (by omega) (by
      rcases he with he | he
      · left; simp at he; exact he
      · right; simpa using he)
    rw [take_cons, sg_cons]
    simp only [cut]
    by_cases hc : isF c = true
    · rw [if_pos hc, if_pos hc, Nat.zero_add, ih]; omega
    · rw [if_neg hc, if_neg hc, if_neg (by omega), Nat.add_sub_cancel_left, ih]; omega
theorem Cut_p1 (k : Nat) (t : List UInt8) (ht : t.length < 1000000000) : ∀ (m i n : Nat), t.length < m + i → i ≤ t.length → n < 1000000000000 → runes_Cut.p1 k m t (n : Int) (t.length : Int) (i : Int) = some (((i + cut (t.drop i) n : Nat) : Int), ())
  | 0, i, n, h, hi, _ => by omega
  | m + 1, i, n, h, hi, hn => by
    have step : runes_Cut.p1 k (m + 1) t (n : Int) (t.length : Int) (i : Int) = runes_Cut.t1 (runes_Cut.p2 k (runes_Cut.p1 k m)) (runes_Cut.p3 k) t (n : Int) (t.length : Int) (i : Int) := rfl
    rw [step]
    simp only [runes_Cut.t1, iteB_dec]
    by_cases c : i < t.length
    · rw [if_pos (by omega), withinR_nat c]
      show bindR (s_runes_isFollower (((t.getD i 0).toNat : Int), ())) _ = _
      rw [isFollower_eq, bindR_val, drop_cons t i c, cut]
      have go : ∀ z : Nat, z ≤ n → runes_Cut.p2 k (runes_Cut.p1 k m) t (z : Int) (t.length : Int) (i : Int) = some (((i + 1 + cut (t.drop (i + 1)) z : Nat) : Int), ()) := fun z hz => by
        show runes_Cut.p1 k m t z t.length (w64 ((i : Int) + 1)) = _
        rw [w64_id (by omega) (by omega)]
        exact Cut_p1 k t ht m (i + 1) z (by omega) (by omega) (by omega)
      cases hF : isF (t.getD i 0) with
      | true => simp only [iteB_true, if_true]; rw [go n (by omega)]; congr 3; omega
      | false =>
        simp only [iteB_false, Bool.false_eq_true, if_false]
        by_cases h0 : n = 0
        · rw [if_pos (by omega), if_pos h0]; rfl
        · rw [if_neg (by omega), if_neg h0, w64_id (by omega) (by omega), show (n : Int) - 1 = ((n - 1 : Nat) : Int) by omega, go (n - 1) (by omega)]; congr 3; omega
    · rw [if_neg (by omega), List.drop_of_length_le (by omega)]
      have : i = t.length := by omega
      subst this; rfl
theorem Cut_eq (t : List UInt8) (ht : t.length < 1000000000) (n : Nat) (hn : n < 1000000000000) : s_runes_Cut (t, ((n : Int), ())) = some ((cut t n : Int), ()) := by
  show runes_Cut.t0 (runes_Cut.p1 fuel fuel) t n = _
  simp only [runes_Cut.t0, iteB_dec]
  rw [if_neg (by omega)]
  have := Cut_p1 fuel t ht fuel 0 n (by have := fuel_gt t.length (by omega); omega) (by omega) hn
  rw [List.drop_zero, Nat.zero_add] at this
  exact this
end Go.Proofs.Ytdifekkamjoepaa.Vm.Rp
namespace Go.Proofs.Ytdifekkamjoepaa.Vm.Rp
open Go Go.Proofs.Ytdifekkamjoepaa.Vm
set_option linter.unusedVariables false
section
variable {s : List UInt8} {o : Option N0}

theorem Line_st (H : Ro s o) (hs : s.length < 1000000) (k : Nat) (h : k ≤ nl s) : s_rope_Rope_Line (o, ((k : Int), ())) = some (((st s k : Int), true), ()) := by
  rw [Line_eq H hs, if_neg (by omega)]
  unfold st
  by_cases h0 : k = 0
  · subst h0; rfl
  · rw [if_neg (by omega), if_neg h0, Int.toNat_natCast]
theorem find_eq (H : Ro s o) (hs : s.length < 1000000) (k : Nat) (h : k ≤ nl s) : s_place_find (o, ((k : Int), ())) = some (((((st s k : Int), (en s k : Int)), (sg (li s k) : Int)), true), ()) := by
  have n1 := nl_le s
  show place_find.t0 (place_find.p1 fuel) o k = _
  simp only [place_find.t0, Line_st H hs k h, bindR_val, notB_true, iteB_false, len_eq H (by omega)]
  have h1 := st_le s k
  have h2 := en_le s k
  have h3 := st_en s k h
  have fin : place_find.p1 fuel o (((0 : Int), (0 : Int)), (0 : Int)) (((st s k : Int), (en s k : Int)), (0 : Int)) = some (((((st s k : Int), (en s k : Int)), (sg (li s k) : Int)), true), ()) := by
    show place_find.t1 o _ _ = _
    have e := sg_li s k h
    have l1 := sg_le (s.take (en s k))
    rw [List.length_take] at l1
    simp only [place_find.t1, Signs_eq H (by omega), bindR_val]
    rw [cl_in (s := s) (i := (en s k : Int)) (by omega) (by omega), cl_in (s := s) (i := (st s k : Int)) (by omega) (by omega), Int.toNat_natCast, Int.toNat_natCast, w64_id (by omega) (by omega)]
    congr 3; simp only [Prod.mk.injEq, true_and, and_true]; omega
  rw [w64_id (by omega) (by omega), show (k : Int) + 1 = ((k + 1 : Nat) : Int) by omega, Line_eq H hs]
  by_cases c : k + 1 ≤ nl s
  · rw [if_neg (by omega), if_neg (by omega)]
    have l := ln_le s (k + 1)
    have l1 := (ln_iff s (k + 1) 0 (by omega) c).1 (by rw [List.take_zero, nl_nil]; omega)
    simp only [iteB_true, bindR_val, Int.toNat_natCast]
    rw [w64_id (by omega) (by omega)]
    have e : (ln s (k + 1) : Int) - 1 = (en s k : Int) := by unfold en; rw [if_pos c]; omega
    rw [e]; exact fin
  · rw [if_pos (by omega)]
    simp only [iteB_false, bindR_val]
    have e : (s.length : Int) = (en s k : Int) := by unfold en; rw [if_neg c]
    rw [e]; exact fin
theorem find_bad (H : Ro s o) (hs : s.length < 1000000) (k : Int) (h : k < 0 ∨ nl s < k) : s_place_find (o, (k, ())) = some (((((0 : Int), (0 : Int)), (0 : Int)), false), ()) := by
  show place_find.t0 (place_find.p1 fuel) o k = _
  simp only [place_find.t0, Line_eq H hs, bindR_val]
  rw [if_pos h]; rfl
theorem line_at_eq (H : Ro s o) (hs : s.length < 1000000) (k : Nat) (h : k ≤ nl s) (w : Int) (c : Nat) (hc : c < 1000000000) : s_place_line_at (((((st s k : Int), (en s k : Int)), w), (o, ((c : Int), ())))) = some (((st s k + cut (li s k) c : Nat) : Int), ()) := by
  have h1 := st_le s k
  have h2 := en_le s k
  have h3 := st_en s k h
  have hl := li_len s k h
  have hcl := cut_le (li s k) c
  show place_line_at.t0 _ o c = _
  simp only [place_line_at.t0, Slice_eq H (by omega), bindR_val]
  rw [if_pos (by omega), Int.toNat_natCast, Int.toNat_natCast]
  show bindR (s_runes_Cut (li s k, ((c : Int), ()))) _ = _
  rw [Cut_eq _ (by omega) c (by omega), bindR_val, w64_id (by omega) (by omega)]; rfl
theorem At_eq (H : Ro s o) (hs : s.length < 1000000) (k c : Nat) (h : k ≤ nl s) (hc : c ≤ sg (li s k)) : s_place_At (o, (((k : Int), (c : Int)), ())) = some ((((st s k + cut (li s k) c : Nat) : Int), 0), ()) := by
  have hl := li_len s k h
  have := en_le s k
  have hsg := sg_le (li s k)
  show place_At.t0 (place_At.p1 fuel) o _ = _
  simp only [place_At.t0, find_eq H hs k h, bindR_val, notB_true, iteB_false, iteB_dec]
  rw [if_neg (by omega), decide_eq_false (by omega)]
  show place_At.t2 o _ _ = _
  simp only [place_At.t2, line_at_eq H hs k h _ c (by omega), bindR_val]
def near (s : List UInt8) (l c : Int) : Nat := if l < 0 then 0 else if nl s < l then s.length else st s l.toNat + cut (li s l.toNat) (min (max c 0) (sg (li s l.toNat) : Int)).toNat
theorem Near_eq (H : Ro s o) (hs : s.length < 1000000) (l c : Int) : s_place_Near (o, ((l, c), ())) = some ((near s l c : Int), ()) := by
  show place_Near.t0 o (l, c) = _
  simp only [place_Near.t0, iteB_dec]
  unfold near
  by_cases c0 : l < 0
  · rw [if_pos c0, if_pos c0]; rfl
  rw [if_neg c0, if_neg c0]
  by_cases c1 : (nl s : Int) < l
  · rw [find_bad H hs l (.inr c1), if_pos c1]
    simp only [bindR_val, notB_false, iteB_true, len_eq H (by omega)]
  · obtain ⟨k, rfl⟩ : ∃ k : Nat, l = k := ⟨l.toNat, by omega⟩
    have hk : k ≤ nl s := by omega
    have hl := li_len s k hk
    have := en_le s k
    have hsg := sg_le (li s k)
    rw [if_neg c1, find_eq H hs k hk, Int.toNat_natCast]
    simp only [bindR_val, notB_true, iteB_false]
    have e : minI (maxI c 0) (sg (li s k) : Int) = (((min (max c 0) (sg (li s k) : Int)).toNat : Nat) : Int) := by unfold minI maxI; omega
    rw [e, line_at_eq H hs k hk _ _ (by omega), bindR_val]
theorem Mark_eq (H : Ro s o) (hs : s.length < 1000000) (i : Nat) (h : i ≤ s.length) : s_place_Mark (o, ((i : Int), ())) = some ((((nl (s.take i) : Int), (mc (s.take i) : Int)), 0), ()) := by
  show place_Mark.t0 (place_Mark.p1 fuel) o i = _
  simp only [place_Mark.t0, iteB_dec, len_eq H (by omega), bindR_val]
  rw [if_neg (by omega), decide_eq_false (by omega)]
  show place_Mark.t2 (i : Int) o (0, 0) = _
  have hn := nl_take_le s i
  simp only [place_Mark.t2, Lines_eq H (by omega), Signs_eq H (by omega), bindR_val]
  rw [cl_in (s := s) (i := (i : Int)) (by omega) (by omega), Int.toNat_natCast, Line_st H hs _ hn, bindR_val]
  simp only [Signs_eq H (by omega), bindR_val]
  have hst : st s (nl (s.take i)) = ls (s.take i) := by
    have := st_append (s.take i) (s.drop i) (nl (s.take i)) (Nat.le_refl _)
    rw [List.take_append_drop] at this
    exact this
  have hle := ls_le (s.take i)
  have hlt : (s.take i).length = i := by rw [List.length_take]; omega
  rw [hst, cl_in (s := s) (i := (ls (s.take i) : Int)) (by omega) (by omega), Int.toNat_natCast]
  have e : s.take (ls (s.take i)) = (s.take i).take (ls (s.take i)) := by rw [List.take_take, Nat.min_eq_left (by omega)]
  have e2 : sg (s.take i) = sg (s.take (ls (s.take i))) + mc (s.take i) := by
    rw [e]; unfold mc; rw [← sg_append, List.take_append_drop]
  have hsg := sg_le (s.take i)
  rw [w64_id (by omega) (by omega)]
  congr 3; simp only [Prod.mk.injEq, true_and, and_true]; omega
theorem Mark_bad (H : Ro s o) (hs : s.length < 1000000) (i : Int) (h : i < 0 ∨ s.length < i) : s_place_Mark (o, (i, ())) = some (((0, 0), 3), ()) := by
  show place_Mark.t0 (place_Mark.p1 fuel) o i = _
  simp only [place_Mark.t0, iteB_dec, len_eq H (by omega), bindR_val]
  by_cases c : i < 0
  · rw [if_pos c]; rfl
  · rw [if_neg c, decide_eq_true (by omega)]; rfl
theorem PLines_eq (H : Ro s o) (hs : s.length < 1000000) : s_place_Lines (o, ()) = some (((nl s + 1 : Nat) : Int), ()) := by
  have n1 := nl_le s
  show place_Lines.t0 o = _
  simp only [place_Lines.t0, len_eq H (by omega), bindR_val, Lines_eq H (by omega)]
  rw [cl_in (s := s) (i := (s.length : Int)) (by omega) (by omega), Int.toNat_natCast, List.take_length, w64_id (by omega) (by omega)]; rfl
theorem neg64 (m : Nat) (hm : m < 100000000) : negI .i64 (m : Int) = -(m : Int) := by
  have e : negI .i64 (m : Int) = w64 (0 - (m : Int)) := rfl
  rw [e, w64_id (by omega) (by omega)]; omega
def upTo (s : List UInt8) (i : Nat) (n : Int) : Int := (nl (s.take i) : Int) - min (max n (-((nl s + 1 : Nat) : Int))) ((nl s + 1 : Nat) : Int)
theorem Up_eq (H : Ro s o) (hs : s.length < 1000000) (i : Nat) (h : i ≤ s.length) (n : Int) : s_place_Up (o, ((i : Int), (n, ()))) = some (((near s (upTo s i n) (mc (s.take i)) : Int), 0), ()) := by
  have n1 := nl_le s
  have n2 := nl_take_le s i
  have st : s_place_Up (o, ((i : Int), (n, ()))) = place_Up.t0 o i n := rfl
  have e3 : w64 ((nl (s.take i) : Int) - minI (maxI n (negI .i64 ((nl s + 1 : Nat) : Int))) ((nl s + 1 : Nat) : Int)) = upTo s i n := by
    rw [neg64 _ (by omega)]
    unfold upTo minI maxI
    exact w64_id (by omega) (by omega)
  rw [st]
  simp only [place_Up.t0, Mark_eq H hs i h, bindR_val, decide_true, Bool.not_true, iteB_false, PLines_eq H hs, e3, Near_eq H hs]
theorem Up_bad (H : Ro s o) (hs : s.length < 1000000) (i : Int) (h : i < 0 ∨ s.length < i) (n : Int) : s_place_Up (o, (i, (n, ()))) = some ((0, 3), ()) := by
  show place_Up.t0 o i n = _
  simp only [place_Up.t0, Mark_bad H hs i h, bindR_val]; rfl
theorem Span_eq (H : Ro s o) (hs : s.length < 1000000) (k : Nat) (h : k ≤ nl s) : s_place_Span (o, ((k : Int), ())) = some (((st s k : Int), ((en s k : Int), 0)), ()) := by
  show place_Span.t0 o k = _
  simp only [place_Span.t0, find_eq H hs k h, bindR_val, notB_true, iteB_false]
theorem Span_bad (H : Ro s o) (hs : s.length < 1000000) (k : Int) (h : k < 0 ∨ nl s < k) : s_place_Span (o, (k, ())) = some ((0, (0, 3)), ()) := by
  show place_Span.t0 o k = _
  simp only [place_Span.t0, find_bad H hs k h, bindR_val, notB_false, iteB_true]
theorem Width_eq (H : Ro s o) (hs : s.length < 1000000) (k : Nat) (h : k ≤ nl s) : s_place_Width (o, ((k : Int), ())) = some (((sg (li s k) : Int), 0), ()) := by
  show place_Width.t0 o k = _
  simp only [place_Width.t0, find_eq H hs k h, bindR_val, notB_true, iteB_false]
theorem Width_bad (H : Ro s o) (hs : s.length < 1000000) (k : Int) (h : k < 0 ∨ nl s < k) : s_place_Width (o, (k, ())) = some ((0, 3), ()) := by
  show place_Width.t0 o k = _
  simp only [place_Width.t0, find_bad H hs k h, bindR_val, notB_false, iteB_true]

/-! ### The reference -/
theorem rMark_p1 (k : Nat) (s : List UInt8) (hs : s.length < 1000000) (j : Nat) (hj : j ≤ s.length) : ∀ (m i : Nat) (m4 : Int × Int), j < m + i → i ≤ j → ref03_Mark.p1 k m s (j : Int) (i : Int) m4 ((nl (s.take i) : Int), (mc (s.take i) : Int)) = some (((nl (s.take j) : Int), (mc (s.take j) : Int)), ())
  | 0, i, m4, h, hi => by omega
  | m + 1, i, m4, h, hi => by
    have step : ref03_Mark.p1 k (m + 1) s (j : Int) (i : Int) m4 ((nl (s.take i) : Int), (mc (s.take i) : Int)) = ref03_Mark.t1 (ref03_Mark.p2 k (ref03_Mark.p1 k m)) (ref03_Mark.p3 k) s (j : Int) (i : Int) m4 ((nl (s.take i) : Int), (mc (s.take i) : Int)) := rfl
    rw [step]
    simp only [ref03_Mark.t1, iteB_dec]
    by_cases c : i < j
    · rw [if_pos (by omega), withinR_nat (by omega), withinR_nat (by omega)]
      have hl : (s.take i).length = i := by rw [List.length_take]; omega
      have n1 := nl_le (s.take i)
      have n2 := mc_le (s.take i)
      have es := take_snoc s i (by omega)
      have go : ∀ (a b : Int), a = (nl (s.take (i + 1)) : Int) → b = (mc (s.take (i + 1)) : Int) → ref03_Mark.p2 k (ref03_Mark.p1 k m) s (j : Int) (i : Int) m4 (a, b) = some (((nl (s.take j) : Int), (mc (s.take j) : Int)), ()) := fun a b ha hb => by
        show ref03_Mark.p1 k m s (j : Int) (w64 ((i : Int) + 1)) m4 (a, b) = _
        rw [w64_id (by omega) (by omega), ha, hb]
        exact rMark_p1 k s hs j hj m (i + 1) m4 (by omega) (by omega)
      by_cases c2 : s.getD i 0 = 10
      · rw [if_pos ((byteAt_ten s i).2 c2), w64_id (by omega) (by omega)]
        refine go _ _ ?_ ?_
        · rw [es, c2, nl_append]; rfl
        · rw [es, c2, mc_nl]; rfl
      · rw [if_neg (fun h => c2 ((byteAt_ten s i).1 h))]
        show bindR (s_ref01_Follower (((s.getD i 0).toNat : Int), ())) _ = _
        rw [rfollower_eq, bindR_val]
        have en1 : nl (s.take (i + 1)) = nl (s.take i) := by rw [es, nl_append, nl_cons, if_neg c2, nl_nil]; omega
        have em := mc_other (s.take i) (s.getD i 0) c2
        rw [← es] at em
        cases hF : isF (s.getD i 0) with
        | true =>
          rw [hF, if_pos rfl] at em
          simp only [notB_true, iteB_false]
          exact go _ _ (by rw [en1]) (by rw [em]; rfl)
        | false =>
          rw [hF, if_neg (by simp)] at em
          simp only [notB_false, iteB_true]
          rw [w64_id (by omega) (by omega)]
          exact go _ _ (by rw [en1]) (by rw [em]; rfl)
    · have : i = j := by omega
      subst this
      rw [if_neg (by omega)]; rfl
theorem rMark_eq (s : List UInt8) (hs : s.length < 1000000) (j : Nat) (hj : j ≤ s.length) : s_ref03_Mark (s, ((j : Int), ())) = some (((nl (s.take j) : Int), (mc (s.take j) : Int)), ()) := by
  have := rMark_p1 fuel s hs j hj fuel 0 (0, 0) (by have := fuel_gt j (by omega); omega) (by omega)
  exact this
theorem rLines3 (s : List UInt8) (hs : s.length < 1000000) : s_ref03_Lines (s, ()) = some (((nl s + 1 : Nat) : Int), ()) := by
  have n1 := nl_le s
  show ref03_Lines.t0 s = _
  simp only [ref03_Lines.t0, rMark_eq s hs s.length (Nat.le_refl _), bindR_val, List.take_length]
  rw [w64_id (by omega) (by omega)]; rfl
theorem rSpan_p5 (k : Nat) (s : List UInt8) (hs : s.length < 1000000) (l : Nat) (hl : l ≤ nl s) : ∀ (m j : Nat), s.length < m + j → st s l ≤ j → j ≤ en s l → ref03_Span.p5 k m s (st s l : Int) (j : Int) = some (((st s l : Int), (en s l : Int)), ())
  | 0, j, h, _, h2 => by have := en_le s l; omega
  | m + 1, j, h, h1, h2 => by
    have hen := en_le s l
    have step : ref03_Span.p5 k (m + 1) s (st s l : Int) (j : Int) = ref03_Span.t5 (ref03_Span.p6 k (ref03_Span.p5 k m)) (ref03_Span.p7 k) s (st s l : Int) (j : Int) := rfl
    rw [step]
    simp only [ref03_Span.t5, iteB_dec]
    by_cases c : j < en s l
    · rw [if_pos (by omega), withinR_nat (by omega), decide_eq_false (fun h => no_nl s l j hl h1 c ((byteAt_ten s j).1 h))]
      show ref03_Span.p5 k m s (st s l : Int) (w64 ((j : Int) + 1)) = _
      rw [w64_id (by omega) (by omega)]
      exact rSpan_p5 k s hs l hl m (j + 1) (by omega) (by omega) (by omega)
    · have : j = en s l := by omega
      subst this
      by_cases c2 : en s l < s.length
      · rw [if_pos (by omega), withinR_nat c2, decide_eq_true ((byteAt_ten s _).2 (nl_end s l hl c2))]; rfl
      · rw [if_neg (by omega)]; rfl
theorem rSpan_p3 (k : Nat) (hk : k = fuel) (s : List UInt8) (hs : s.length < 1000000) (l : Nat) (hl : l ≤ nl s) : ∀ (m j : Nat), s.length < m + j → j ≤ st s l → ref03_Span.p3 k m s (l : Int) (j : Int) = some (((st s l : Int), (en s l : Int)), ())
  | 0, j, h, h2 => by have := st_le s l; omega
  | m + 1, j, h, h1 => by
    have hst := st_le s l
    have step : ref03_Span.p3 k (m + 1) s (l : Int) (j : Int) = ref03_Span.t3 (ref03_Span.p3 k m) (ref03_Span.p4 k) s (l : Int) (j : Int) := rfl
    rw [step]
    simp only [ref03_Span.t3, iteB_dec, rMark_eq s hs j (by omega), bindR_val]
    have hi := st_iff s l j hl
    by_cases c : j < st s l
    · rw [if_pos (by omega), w64_id (by omega) (by omega)]
      exact rSpan_p3 k hk s hs l hl m (j + 1) (by omega) (by omega)
    · have : j = st s l := by omega
      subst this
      rw [if_neg (by omega)]
      exact rSpan_p5 k s hs l hl k (st s l) (by rw [hk]; have := fuel_gt s.length (by omega); omega) (Nat.le_refl _) (st_en s l hl)
theorem rSpan3 (s : List UInt8) (hs : s.length < 1000000) (l : Nat) (hl : l ≤ nl s) : s_ref03_Span (s, ((l : Int), ())) = some (((st s l : Int), (en s l : Int)), ()) := by
  show ref03_Span.t0 (ref03_Span.p1 fuel) s l = _
  simp only [ref03_Span.t0, iteB_dec, rLines3 s hs, bindR_val]
  rw [if_neg (by omega), decide_eq_false (by omega)]
  exact rSpan_p3 fuel rfl s hs l hl fuel 0 (by have := fuel_gt s.length (by omega); omega) (by omega)
theorem rSpan3_bad (s : List UInt8) (hs : s.length < 1000000) (l : Int) (h : l < 0 ∨ nl s < l) : s_ref03_Span (s, (l, ())) = some ((-1, -1), ()) := by
  show ref03_Span.t0 (ref03_Span.p1 fuel) s l = _
  simp only [ref03_Span.t0, iteB_dec, rLines3 s hs, bindR_val]
  by_cases c : l < 0
  · rw [if_pos c]; rfl
  · rw [if_neg c, decide_eq_true (by omega)]; rfl
theorem rWidth (s : List UInt8) (hs : s.length < 1000000) (l : Nat) (hl : l ≤ nl s) : s_ref03_Width (s, ((l : Int), ())) = some ((sg (li s l) : Int), ()) := by
  have h1 := st_le s l
  have h2 := en_le s l
  have h3 := st_en s l hl
  have hll := li_len s l hl
  show ref03_Width.t0 s l = _
  simp only [ref03_Width.t0, rSpan3 s hs l hl, bindR_val]
  rw [mustR_dec (by omega), mustR_dec (by omega), mustR_dec (by omega), mustR_dec (by omega), Int.toNat_natCast, Int.toNat_natCast]
  show bindR (s_ref01_Count (li s l, ())) _ = _
  rw [rcount_eq _ (by omega), bindR_val]
theorem rEdge_eq (t : List UInt8) (i : Nat) (h : i ≤ t.length) : s_ref01_Edge (t, ((i : Int), ())) = some (decide (i = t.length ∨ isF (t.getD i 0) = false), ()) := by
  show ref01_Edge.t0 (ref01_Edge.p1 fuel) t i = _
  simp only [ref01_Edge.t0, iteB_dec]
  rw [if_neg (by omega), decide_eq_false (by omega)]
  show ref01_Edge.t2 t i = _
  simp only [ref01_Edge.t2, iteB_dec]
  by_cases c : i = t.length
  · rw [if_pos (by omega), decide_eq_true (.inl c)]
  · rw [if_neg (by omega), withinR_nat (by omega)]
    show bindR (s_ref01_Follower (((t.getD i 0).toNat : Int), ())) _ = _
    rw [rfollower_eq, bindR_val]
    cases hF : isF (t.getD i 0) with
    | true => rw [decide_eq_false (by simp [c])]; rfl
    | false => rw [decide_eq_true (.inr rfl)]; rfl
theorem rEdge_bad (t : List UInt8) (i : Int) (h : i < 0 ∨ t.length < i) : s_ref01_Edge (t, (i, ())) = some (false, ()) := by
  show ref01_Edge.t0 (ref01_Edge.p1 fuel) t i = _
  simp only [ref01_Edge.t0, iteB_dec]
  by_cases c : i < 0
  · rw [if_pos c]; rfl
  · rw [if_neg c, decide_eq_true (by omega)]; rfl
theorem rAt_p1 (k : Nat) (s : List UInt8) (hs : s.length < 1000000) (l c : Nat) (hl : l ≤ nl s) (hc : c ≤ sg (li s l)) (lz : Int) : ∀ (m j : Nat) (best : Int), (li s l).length + 1 < m + j → j ≤ (li s l).length + 1 → (j ≤ cut (li s l) c ∨ best = ((st s l + cut (li s l) c : Nat) : Int)) →
    ref03_At.p1 k m s (st s l : Int) (en s l : Int) best (((st s l + j : Nat)) : Int) (lz, (c : Int)) = some (((st s l + cut (li s l) c : Nat) : Int), ())
  | 0, j, best, h, hj, _ => by omega
  | m + 1, j, best, h, hj, hb => by
    have h1 := st_le s l
    have h2 := en_le s l
    have h3 := st_en s l hl
    have hll := li_len s l hl
    have hcl := cut_le (li s l) c
    have step : ref03_At.p1 k (m + 1) s (st s l : Int) (en s l : Int) best (((st s l + j : Nat)) : Int) (lz, (c : Int)) = ref03_At.t1 (ref03_At.p2 k (ref03_At.p1 k m)) (ref03_At.p3 k) s (st s l : Int) (en s l : Int) best (((st s l + j : Nat)) : Int) (lz, (c : Int)) := rfl
    rw [step]
    simp only [ref03_At.t1, iteB_dec]
    by_cases cj : j ≤ (li s l).length
    · rw [if_pos (by omega), mustR_dec (by omega), mustR_dec (by omega), mustR_dec (by omega), mustR_dec (by omega), w64_id (by omega) (by omega)]
      rw [Int.toNat_natCast, Int.toNat_natCast, show ((st s l + j : Nat) : Int) - (st s l : Int) = (j : Int) by omega]
      have ed := rEdge_eq (li s l) j cj
      have ed2 : s_ref01_Edge (List.drop (st s l) (List.take (en s l) s), ((j : Int), ())) = some (decide (j = (li s l).length ∨ isF ((li s l).getD j 0) = false), ()) := ed
      rw [ed2, bindR_val]
      have next : ∀ (b : Bool), (b = true → j = cut (li s l) c ∨ j < cut (li s l) c) → (b = false → j ≠ cut (li s l) c) → ref03_At.p2 k (ref03_At.p1 k m) s (st s l : Int) (en s l : Int) best (((st s l + j : Nat)) : Int) b (lz, (c : Int)) = some (((st s l + cut (li s l) c : Nat) : Int), ()) := fun b hb1 hb2 => by
        show ref03_At.t2 (ref03_At.p4 k (ref03_At.p1 k m)) s (st s l : Int) (en s l : Int) best (((st s l + j : Nat)) : Int) b (lz, (c : Int)) = _
        have go : ∀ best' : Int, (j + 1 ≤ cut (li s l) c ∨ best' = ((st s l + cut (li s l) c : Nat) : Int)) → ref03_At.p4 k (ref03_At.p1 k m) s (st s l : Int) (en s l : Int) best' (((st s l + j : Nat)) : Int) (lz, (c : Int)) = some (((st s l + cut (li s l) c : Nat) : Int), ()) := fun best' hb' => by
          show ref03_At.p1 k m s (st s l : Int) (en s l : Int) best' (w64 (((st s l + j : Nat) : Int) + 1)) (lz, (c : Int)) = _
          rw [w64_id (by omega) (by omega), show ((st s l + j : Nat) : Int) + 1 = ((st s l + (j + 1) : Nat) : Int) by omega]
          exact rAt_p1 k s hs l c hl hc lz m (j + 1) best' (by omega) (by omega) hb'
        cases b with
        | true =>
          simp only [ref03_At.t2, iteB_true]
          refine go _ ?_
          rcases hb1 rfl with e | e
          · right; rw [e]
          · left; omega
        | false =>
          simp only [ref03_At.t2, iteB_false]
          refine go _ ?_
          have := hb2 rfl
          rcases hb with hb | hb
          · left; omega
          · right; exact hb
      by_cases ce : j = (li s l).length ∨ isF ((li s l).getD j 0) = false
      · rw [decide_eq_true ce]
        simp only [iteB_true]
        rw [mustR_dec (by omega), mustR_dec (by omega), mustR_dec (by omega), mustR_dec (by omega), Int.toNat_natCast]
        have et : List.drop (st s l) (List.take (st s l + j) s) = (li s l).take j := by
          unfold li
          rw [← List.drop_take', List.take_take, Nat.min_eq_left (by omega)]
        rw [et, rcount_eq _ (by rw [List.length_take]; omega), bindR_val]
        refine next _ (fun hd => ?_) (fun hd e => ?_)
        · have hd := of_decide_eq_true hd
          rcases Nat.lt_or_ge (cut (li s l) c) j with hlt | hge
          · have := cut_gt (li s l) c j hlt cj; exfalso; simp only at hd; omega
          · omega
        · have hd := of_decide_eq_false hd
          subst e
          have := cut_sg (li s l) c
          simp only at hd; omega
      · rw [decide_eq_false ce]
        simp only [iteB_false]
        refine next false (fun h => by cases h) (fun _ e => ce ?_)
        rw [e]
        exact cut_edge (li s l) c
    · rw [if_neg (by omega)]
      show some (best, ()) = _
      rcases hb with hb | hb
      · omega
      · rw [hb]
  where
  List.drop_take' {j a : Nat} {s : List UInt8} : ((s.take (a + j)).drop a) = (s.drop a).take j := by
    rw [List.drop_take, Nat.add_sub_cancel_left]
theorem rAt_eq (s : List UInt8) (hs : s.length < 1000000) (l c : Nat) (hl : l ≤ nl s) (hc : c ≤ sg (li s l)) : s_ref03_At (s, (((l : Int), (c : Int)), ())) = some (((st s l + cut (li s l) c : Nat) : Int), ()) := by
  have hll := li_len s l hl
  have h2 := en_le s l
  have e : s_ref03_At (s, (((l : Int), (c : Int)), ())) = ref03_At.t0 (ref03_At.p1 fuel fuel) s ((l : Int), (c : Int)) := rfl
  rw [e]
  simp only [ref03_At.t0, rSpan3 s hs l hl, bindR_val]
  have := rAt_p1 fuel s hs l c hl hc (l : Int) fuel 0 (st s l : Int) (by have := fuel_gt ((li s l).length + 1) (by omega); omega) (by omega) (.inl (by omega))
  rw [Nat.add_zero] at this
  exact this
theorem rNear_eq (s : List UInt8) (hs : s.length < 1000000) (l c : Int) : s_ref03_Near (s, ((l, c), ())) = some ((near s l c : Int), ()) := by
  have e : s_ref03_Near (s, ((l, c), ())) = ref03_Near.t0 (ref03_Near.p1 fuel) s (l, c) := rfl
  rw [e]
  simp only [ref03_Near.t0, iteB_dec]
  unfold near
  by_cases c0 : l < 0
  · rw [if_pos c0, if_pos c0]; rfl
  rw [if_neg c0, if_neg c0, rLines3 s hs, bindR_val]
  by_cases c1 : (nl s : Int) < l
  · rw [if_pos c1, if_pos (by omega)]
  · obtain ⟨k, rfl⟩ : ∃ k : Nat, l = k := ⟨l.toNat, by omega⟩
    have hk : k ≤ nl s := by omega
    rw [if_neg c1, if_neg (by omega), Int.toNat_natCast]
    have fin : ∀ d : Nat, ref03_Near.p1 fuel s ((k : Int), (d : Int)) = some (((st s k + cut (li s k) (min d (sg (li s k))) : Nat) : Int), ()) := fun d => by
      show ref03_Near.t1 (ref03_Near.p2 fuel) s ((k : Int), (d : Int)) = _
      simp only [ref03_Near.t1, rWidth s hs k hk, bindR_val, iteB_dec]
      have two : ∀ d : Nat, d ≤ sg (li s k) → ref03_Near.p2 fuel s ((k : Int), (d : Int)) = some (((st s k + cut (li s k) d : Nat) : Int), ()) := fun d hd => by
        show ref03_Near.t2 s ((k : Int), (d : Int)) = _
        simp only [ref03_Near.t2, rAt_eq s hs k d hk hd, bindR_val]
      by_cases c2 : sg (li s k) < d
      · rw [if_pos (by omega), two _ (Nat.le_refl _), Nat.min_eq_right (by omega)]
      · rw [if_neg (by omega), two d (by omega), Nat.min_eq_left (by omega)]
    by_cases c2 : c < 0
    · rw [if_pos c2, show (0 : Int) = ((0 : Nat) : Int) from rfl, fin 0]
      congr 5; omega
    · obtain ⟨d, rfl⟩ : ∃ d : Nat, c = d := ⟨c.toNat, by omega⟩
      rw [if_neg c2, fin d]
      congr 5; omega

/-! ### The laws -/
theorem alive3 : s_law03_alive () = some (true, ()) := by
  obtain ⟨o, h, e, T⟩ := Of_spec [97, 10, 195, 169, 98] (by decide)
  have R : Ro [97, 10, 195, 169, 98] o := ⟨h, T⟩
  have n : nl [97, 10, 195, 169, 98] = 1 := by decide
  have M : s_place_Mark (o, ((5 : Int), ())) = _ := Mark_eq R (by decide) 5 (by decide)
  rw [show nl (List.take 5 [97, 10, 195, 169, 98]) = 1 by decide, show mc (List.take 5 [97, 10, 195, 169, 98]) = 2 by decide] at M
  have A : s_place_At (o, (((1 : Int), (1 : Int)), ())) = _ := At_eq R (by decide) 1 1 (by decide) (by decide)
  rw [show st [97, 10, 195, 169, 98] 1 + cut (li [97, 10, 195, 169, 98] 1) 1 = 4 by decide] at A
  have U : s_place_Up (o, ((5 : Int), ((1 : Int), ()))) = _ := Up_eq R (by decide) 5 (by decide) 1
  rw [show near [97, 10, 195, 169, 98] (upTo [97, 10, 195, 169, 98] 5 1) (mc (List.take 5 [97, 10, 195, 169, 98]) : Int) = 1 by decide] at U
  have N1 := Near_eq R (by decide) 9 0
  rw [show near [97, 10, 195, 169, 98] 9 0 = 5 by decide] at N1
  have N2 := Near_eq R (by decide) 0 9
  rw [show near [97, 10, 195, 169, 98] 0 9 = 1 by decide] at N2
  have st : s_law03_alive () = law03_alive.t0 := rfl
  rw [st]
  simp only [law03_alive.t0, e, bindR_val, M, A, U, N1, N2]
  rfl
theorem rune_edge (c : UInt8) : s_runes_Edge (bytesOf ([((c.toNat : Int))] : List Int), ((0 : Int), ())) = some (!isF c, ()) := by
  have e : bytesOf ([((c.toNat : Int))] : List Int) = [c] := by
    show [UInt8.ofNat ((c.toNat : Int)).toNat] = [c]
    rw [Int.toNat_natCast, UInt8.ofNat_toNat]
  rw [e]
  show runes_Edge.t0 [c] 0 = _
  simp only [runes_Edge.t0, iteB_dec]
  rw [if_neg (by simp), if_pos (by omega), if_pos (by simp), withinR_zero (by simp)]
  show bindR (s_runes_isFollower ((c.toNat : Int), ())) _ = _
  rw [isFollower_eq, bindR_val]; rfl
theorem PEdge_eq (H : Ro s o) (hs : s.length < 1000000) (i : Int) : ∃ b, s_place_Edge (o, (i, ())) = some (b, ()) ∧ s_ref01_Edge (s, (i, ())) = some (b, ()) := by
  have st : s_place_Edge (o, (i, ())) = place_Edge.t0 o i := rfl
  rw [st]
  simp only [place_Edge.t0, iteB_dec, len_eq H (by omega), bindR_val, at_eq H (by omega)]
  by_cases c : i = s.length
  · subst c
    refine ⟨true, by rw [if_pos rfl], ?_⟩
    rw [rEdge_eq s s.length (Nat.le_refl _), decide_eq_true (.inl rfl)]
  · rw [if_neg c]
    by_cases c2 : 0 ≤ i ∧ i < s.length
    · obtain ⟨j, rfl⟩ : ∃ j : Nat, i = j := ⟨i.toNat, by omega⟩
      rw [if_pos c2]
      simp only [iteB_true]
      refine ⟨!isF (s.getD j 0), ?_, ?_⟩
      · have : byteAt s (j : Int).toNat = ((s.getD j 0).toNat : Int) := rfl
        rw [this, rune_edge, bindR_val]
      · rw [rEdge_eq s j (by omega)]
        cases hF : isF (s.getD j 0) with
        | true => rw [decide_eq_false (by simp; omega)]; rfl
        | false => rw [decide_eq_true (.inr rfl)]; rfl
    · rw [if_neg c2]
      exact ⟨false, rfl, rEdge_bad s i (by omega)⟩
theorem marksLaw (s : List UInt8) (i : Int) : s_law03_PlaceMarks (s, (i, ())) = some (true, ()) := by
  have st : s_law03_PlaceMarks (s, (i, ())) = law03_PlaceMarks.t0 (law03_PlaceMarks.p1 fuel) s i := rfl
  rw [st]
  simp only [law03_PlaceMarks.t0, alive3, bindR_val, notB_true, iteB_false, iteB_dec]
  by_cases c1 : 500 < s.length
  · rw [if_pos (by omega)]
  rw [if_neg (by omega)]
  obtain ⟨o, h, e, T⟩ := Of_spec s (by omega)
  have R : Ro s o := ⟨h, T⟩
  obtain ⟨b, E1, E2⟩ := PEdge_eq R (by omega) i
  rw [e, bindR_val]
  by_cases c : i < 0 ∨ s.length < i
  · simp only [Mark_bad R (by omega) i c, PLines_eq R (by omega), rLines3 s (by omega), bindR_val, E1, E2]
    simp only [decide_true, Bool.not_true, iteB_false]
    show law03_PlaceMarks.t1 (law03_PlaceMarks.p2 fuel) s i 3 (!b == b) (0, 0) = _
    rw [beq_self_eq_true]
    simp only [law03_PlaceMarks.t1, Bool.not_true, iteB_false]
    show law03_PlaceMarks.t2 (law03_PlaceMarks.p3 fuel) s i 3 (0, 0) = _
    simp only [law03_PlaceMarks.t2, iteB_dec]
    by_cases c2 : i < 0
    · rw [if_pos c2]; rfl
    · rw [if_neg c2, decide_eq_true (by omega)]; rfl
  · obtain ⟨j, rfl⟩ : ∃ j : Nat, i = j := ⟨i.toNat, by omega⟩
    simp only [Mark_eq R (by omega) j (by omega), PLines_eq R (by omega), rLines3 s (by omega), bindR_val, E1, E2]
    simp only [decide_true, Bool.not_true, iteB_false]
    show law03_PlaceMarks.t1 (law03_PlaceMarks.p2 fuel) s j 0 (!b == b) ((nl (s.take j) : Int), (mc (s.take j) : Int)) = _
    rw [beq_self_eq_true]
    simp only [law03_PlaceMarks.t1, Bool.not_true, iteB_false]
    show law03_PlaceMarks.t2 (law03_PlaceMarks.p3 fuel) s j 0 ((nl (s.take j) : Int), (mc (s.take j) : Int)) = _
    simp only [law03_PlaceMarks.t2, iteB_dec]
    rw [if_neg (by omega), decide_eq_false (by omega)]
    show law03_PlaceMarks.t4 s j 0 ((nl (s.take j) : Int), (mc (s.take j) : Int)) = _
    simp only [law03_PlaceMarks.t4, rMark_eq s (by omega) j (by omega), bindR_val, decide_true, iteB_true, Bool.and_self]
theorem linesLaw (s : List UInt8) (k : Int) : s_law03_PlaceLines (s, (k, ())) = some (true, ()) := by
  have st : s_law03_PlaceLines (s, (k, ())) = law03_PlaceLines.t0 s k := rfl
  rw [st]
  simp only [law03_PlaceLines.t0, alive3, bindR_val, notB_true, iteB_false, iteB_dec]
  by_cases c1 : 300 < s.length
  · rw [if_pos (by omega)]
  rw [if_neg (by omega)]
  obtain ⟨o, h, e, T⟩ := Of_spec s (by omega)
  have R : Ro s o := ⟨h, T⟩
  rw [e, bindR_val]
  by_cases c : k < 0 ∨ nl s < k
  · simp only [Span_bad R (by omega) k c, Width_bad R (by omega) k c, rSpan3_bad s (by omega) k c, bindR_val]
    rfl
  · obtain ⟨j, rfl⟩ : ∃ j : Nat, k = j := ⟨k.toNat, by omega⟩
    simp only [Span_eq R (by omega) j (by omega), Width_eq R (by omega) j (by omega), rSpan3 s (by omega) j (by omega), rWidth s (by omega) j (by omega), bindR_val, decide_true]
    rw [if_neg (by omega)]
    simp
theorem upLaw (s : List UInt8) (i n : Int) : s_law03_PlaceUp (s, (i, (n, ()))) = some (true, ()) := by
  have n1 := nl_le s
  have st : s_law03_PlaceUp (s, (i, (n, ()))) = law03_PlaceUp.t0 (law03_PlaceUp.p1 fuel) s i n := rfl
  rw [st]
  simp only [law03_PlaceUp.t0, alive3, bindR_val, notB_true, iteB_false, iteB_dec]
  by_cases c1 : 200 < s.length
  · rw [if_pos (by omega)]
  rw [if_neg (by omega)]
  obtain ⟨o, h, e, T⟩ := Of_spec s (by omega)
  have R : Ro s o := ⟨h, T⟩
  rw [e, bindR_val]
  by_cases c : i < 0 ∨ s.length < i
  · simp only [Up_bad R (by omega) i c, bindR_val]
    by_cases c2 : i < 0
    · rw [if_pos c2]; rfl
    · rw [if_neg c2, decide_eq_true (by omega)]; rfl
  · obtain ⟨j, rfl⟩ : ∃ j : Nat, i = j := ⟨i.toNat, by omega⟩
    have n2 := nl_take_le s j
    simp only [Up_eq R (by omega) j (by omega), bindR_val]
    rw [if_neg (by omega), decide_eq_false (by omega)]
    show law03_PlaceUp.t2 s j n (near s (upTo s j n) (mc (s.take j)) : Int) 0 = _
    simp only [law03_PlaceUp.t2, rMark_eq s (by omega) j (by omega), rLines3 s (by omega), bindR_val, iteB_dec]
    by_cases d1 : (nl (s.take j) : Int) < n
    · rw [if_pos d1]
      have : near s (upTo s j n) (mc (s.take j)) = 0 := by
        unfold near; rw [if_pos (by unfold upTo; omega)]
      rw [this]; rfl
    · rw [if_neg d1, w64_id (by omega) (by omega)]
      by_cases d2 : n < (nl (s.take j) : Int) - ((nl s + 1 : Nat) : Int)
      · rw [if_pos d2]
        have : near s (upTo s j n) (mc (s.take j)) = s.length := by
          unfold near; rw [if_neg (by unfold upTo; omega), if_pos (by unfold upTo; omega)]
        rw [this]; simp
      · rw [if_neg d2, w64_id (by omega) (by omega), rNear_eq s (by omega), bindR_val]
        have : upTo s j n = (nl (s.take j) : Int) - n := by unfold upTo; omega
        rw [this]; simp
theorem rBytes_len (n : Int) : ∃ b, s_ref01_Bytes (n, ()) = some (b, ()) ∧ b.length ≤ 4 := by
  have sgn : ∃ b, s_ref01_Sign (n, ()) = some (b, ()) := by
    have e : s_ref01_Sign (n, ()) = ref01_Sign.t0 n := rfl
    rw [e]
    simp only [ref01_Sign.t0, iteB_dec]
    split
    · split
      · split <;> exact ⟨_, rfl⟩
      · exact ⟨_, rfl⟩
    · exact ⟨_, rfl⟩
  obtain ⟨b, eb⟩ := sgn
  have e : s_ref01_Bytes (n, ()) = ref01_Bytes.t0 n := rfl
  rw [e]
  simp only [ref01_Bytes.t0, eb, bindR_val, iteB_dec, iteB_eq]
  split
  · exact ⟨_, rfl, by simp⟩
  · split
    · exact ⟨_, rfl, by simp [bytesOf]⟩
    · split
      · exact ⟨_, rfl, by simp [bytesOf]⟩
      · split <;> exact ⟨_, rfl, by simp [bytesOf]⟩
theorem back_p3 (k : Nat) (a : Int) (ha : 0 ≤ a) (ha2 : a < 256) (s : List UInt8) (hs : s.length ≤ 1000) : law03_PlaceBack.p3 k a s = some (true, ()) := by
  have st0 : law03_PlaceBack.p3 k a s = law03_PlaceBack.t3 a s := rfl
  rw [st0]
  obtain ⟨o, h, e, T⟩ := Of_spec s (by omega)
  have R : Ro s o := ⟨h, T⟩
  have w1 : w64 ((s.length : Int) + 1) = ((s.length + 1 : Nat) : Int) := by rw [w64_id (by omega) (by omega)]; rfl
  obtain ⟨j, hj⟩ : ∃ j : Nat, Int.tmod (w64 a) ((s.length + 1 : Nat) : Int) = j := by
    rw [w64_id (by omega) (by omega)]
    exact ⟨(Int.tmod a ((s.length + 1 : Nat) : Int)).toNat, by have := Int.tmod_nonneg (a := a) ((s.length + 1 : Nat) : Int) ha; omega⟩
  have hj2 : j ≤ s.length := by
    have : Int.tmod (w64 a) ((s.length + 1 : Nat) : Int) < ((s.length + 1 : Nat) : Int) := Int.tmod_lt_of_pos _ (by omega)
    omega
  simp only [law03_PlaceBack.t3, e, bindR_val, w1, hj]
  rw [mustR_pos (c := !decide (((s.length + 1 : Nat) : Int) = 0)) (by rw [decide_eq_false (by omega)]; rfl)]
  have hn := nl_take_le s j
  have hlt : (s.take j).length = j := by rw [List.length_take]; omega
  have hst : st s (nl (s.take j)) = ls (s.take j) := by
    have := st_append (s.take j) (s.drop j) (nl (s.take j)) (Nat.le_refl _)
    rw [List.take_append_drop] at this
    exact this
  have hle := ls_le (s.take j)
  have hen : j ≤ en s (nl (s.take j)) := (en_iff s _ j hn hj2).1 (Nat.le_refl _)
  have hll := li_len s (nl (s.take j)) hn
  -- what stands in the line ahead of the place
  have hli : (s.take j).drop (ls (s.take j)) = (li s (nl (s.take j))).take (j - ls (s.take j)) := by
    unfold li
    rw [hst, List.take_drop, List.take_take, Nat.min_eq_left (by omega), show ls (s.take j) + (j - ls (s.take j)) = j by omega]
  have hmc : mc (s.take j) = sg ((li s (nl (s.take j))).take (j - ls (s.take j))) := by unfold mc; rw [hli]
  have hcle : mc (s.take j) ≤ sg (li s (nl (s.take j))) := by
    rw [hmc]
    have := sg_append ((li s (nl (s.take j))).take (j - ls (s.take j))) ((li s (nl (s.take j))).drop (j - ls (s.take j)))
    rw [List.take_append_drop] at this; omega
  simp only [Mark_eq R (by omega) j hj2, bindR_val, At_eq R (by omega) _ _ hn hcle, decide_true, Bool.not_true, iteB_false, rEdge_eq s j hj2]
  by_cases he : j = s.length ∨ isF (s.getD j 0) = false
  · rw [decide_eq_true he]
    simp only [notB_true, iteB_false, iteB_true]
    have hcut : cut (li s (nl (s.take j))) (mc (s.take j)) = j - ls (s.take j) := by
      rw [hmc]
      refine cut_of _ _ (by omega) ?_
      by_cases hje : j = en s (nl (s.take j))
      · left; omega
      · right
        rcases he with he | he
        · have := en_le s (nl (s.take j)); omega
        · have : (li s (nl (s.take j))).getD (j - ls (s.take j)) 0 = s.getD j 0 := by
            unfold li
            rw [hst, List.getD_eq_getElem?_getD, List.getD_eq_getElem?_getD, List.getElem?_drop, List.getElem?_take_of_lt (by omega), show ls (s.take j) + (j - ls (s.take j)) = j by omega]
          rw [this]; exact he
    rw [hcut, hst, show ls (s.take j) + (j - ls (s.take j)) = j by omega]
    simp
  · rw [decide_eq_false he]; rfl
theorem back_p1 (k : Nat) (l : List Int) (a : Int) (ha : 0 ≤ a) (ha2 : a < 256) : ∀ (m i : Nat) (s : List UInt8), 41 < m + i → i ≤ 40 → s.length ≤ 4 * i → law03_PlaceBack.p1 k m l a s (i : Int) = some (true, ())
  | 0, i, s, h, hi, _ => by omega
  | m + 1, i, s, h, hi, hs => by
    have step : law03_PlaceBack.p1 k (m + 1) l a s (i : Int) = law03_PlaceBack.t1 (law03_PlaceBack.p2 k (law03_PlaceBack.p1 k m)) (law03_PlaceBack.p3 k) l a s (i : Int) := rfl
    rw [step]
    simp only [law03_PlaceBack.t1, iteB_dec]
    by_cases c1 : (i : Int) < l.length
    · rw [if_pos c1]
      by_cases c2 : (i : Int) < 40
      · rw [if_pos c2]
        have e2 : law03_PlaceBack.p2 k (law03_PlaceBack.p1 k m) l a s (i : Int) = law03_PlaceBack.t2 (law03_PlaceBack.p1 k m) l a s (i : Int) := rfl
        rw [e2]
        obtain ⟨b, eb, hb⟩ := rBytes_len (l.getD i 0)
        simp only [law03_PlaceBack.t2]
        rw [withinR_nat (by omega), eb, bindR_val, mustR_dec (by simp only; omega), w64_id (by omega) (by omega)]
        exact back_p1 k l a ha ha2 m (i + 1) (s ++ b) (by omega) (by omega) (by rw [List.length_append]; omega)
      · rw [if_neg c2]; exact back_p3 k a ha ha2 s (by omega)
    · rw [if_neg c1]; exact back_p3 k a ha ha2 s (by omega)
theorem backLaw (l : List Int) (a : Int) (ha : 0 ≤ a) (ha2 : a < 256) : s_law03_PlaceBack (l, (a, ())) = some (true, ()) := by
  have st : s_law03_PlaceBack (l, (a, ())) = law03_PlaceBack.t0 (law03_PlaceBack.p1 fuel fuel) l a := rfl
  rw [st]
  simp only [law03_PlaceBack.t0, alive3, bindR_val, notB_true, iteB_false]
  exact back_p1 fuel l a ha ha2 fuel 0 [] (by have := fuel_gt 50 (by decide); omega) (by omega) (by simp)
end
end Go.Proofs.Ytdifekkamjoepaa.Vm.Rp
