/- The plain laws of marks. -/
import Derived.Test.YtdifekkamjoepaaFnsMarks
import Derived.Test.YtdifekkamjoepaaLawEdit
import Derived.Test.YtdifekkamjoepaaIns
namespace Go.Proofs.Ytdifekkamjoepaa.Vm.Rp
open Go Go.Proofs.Ytdifekkamjoepaa.Vm
set_option linter.unusedVariables false
set_option maxRecDepth 100000

abbrev Mk := Int × (List (List UInt8) × (List Int × List (Int × Int)))
def mk0 : Mk := ((0 : Int), (([] : List (List UInt8)), (([] : List (Int)), ([] : List ((Int) × (Int))))))
theorem room_ok {β γ : Type} {l1 : List β} {l2 : List γ} (h : l1.length + l2.length ≤ 34359738368) : room l1 l2 = true := by
  unfold room; exact decide_eq_true (by omega)
theorem nilR_same {α β : Type} {l : List β} {a b : Option α} (h : l = [] → a = b) : nilR (List.isEmpty l) a b = b := by
  cases l with
  | nil => rw [h rfl]; exact meetK_self b
  | cons x l => rfl
theorem clone_eq (l : List (List UInt8)) (h : l.length ≤ 1000000) : s_slices_Clone (l, ()) = some (l, ()) := by
  show slices_Clone.t0 l = _
  unfold slices_Clone.t0
  rw [nilR_same (fun h => by subst h; rfl), room_ok (by simp; omega)]; rfl
theorem clonex_eq (l : List Int) (h : l.length ≤ 1000000) : s_slices_Clonex (l, ()) = some (l, ()) := by
  show slices_Clonex.t0 l = _
  unfold slices_Clonex.t0
  rw [nilR_same (fun h => by subst h; rfl), room_ok (by simp; omega)]; rfl
theorem clonexx_eq (l : List (Int × Int)) (h : l.length ≤ 1000000) : s_slices_Clonexx (l, ()) = some (l, ()) := by
  show slices_Clonexx.t0 l = _
  unfold slices_Clonexx.t0
  rw [nilR_same (fun h => by subst h; rfl), room_ok (by simp; omega)]; rfl
/-- Few enough. -/
def Sm (m : Mk) : Prop := m.2.1.length ≤ 60 ∧ m.2.2.1.length ≤ 60 ∧ m.2.2.2.length ≤ 60
theorem of_eq (m : Mk) (h : Sm m) : s_marks_of (m, ()) = some (m, ()) := by
  obtain ⟨c, n, p, s⟩ := m
  obtain ⟨h1, h2, h3⟩ := h
  show marks_of.t0 (c, (n, (p, s))) = _
  simp only [marks_of.t0]
  rw [clone_eq n (by simp at h1; omega), bindR_val, clonex_eq p (by simp at h2; omega), bindR_val, clonexx_eq s (by simp at h3; omega), bindR_val]

def stp {α : Type} (f : α → α) (l : List α) (i : Nat) : List α := (l.take i).map f ++ l.drop i
theorem stp_len {α : Type} (f : α → α) (l : List α) (i : Nat) : (stp f l i).length = l.length := by simp [stp]; omega
theorem stp_zero {α : Type} (f : α → α) (l : List α) : stp f l 0 = l := by simp [stp]
theorem stp_all {α : Type} (f : α → α) (l : List α) (i : Nat) (h : l.length ≤ i) : stp f l i = l.map f := by
  simp [stp, List.take_of_length_le h, List.drop_of_length_le h]
theorem stp_get {α : Type} (f : α → α) (l : List α) (i : Nat) (d : α) (h : i < l.length) : (stp f l i).getD i d = l[i] := by
  have e : ((l.take i).map f).length = i := by simp; omega
  rw [stp, List.getD_eq_getElem?_getD, List.getElem?_append_right (by omega), e, List.getElem?_drop]
  simp [h]
theorem stp_set {α : Type} (f : α → α) (l : List α) (i : Nat) (h : i < l.length) : (stp f l i).set i (f l[i]) = stp f l (i + 1) := by
  have e : ((l.take i).map f).length = i := by simp; omega
  unfold stp
  rw [List.set_append_right _ _ (by omega), e, Nat.sub_self, List.drop_eq_getElem_cons h, List.set_cons_zero, ← List.take_append_getElem h, List.map_append]
  simp

def mvS (F : Int → Bool → Int) (s : Int × Int) : Int × Int := (F s.1 true, max (F s.1 true) (F s.2 false))
def mvM (F : Int → Bool → Int) (m : Mk) : Mk := (F m.1 true, (m.2.1, (m.2.2.1.map (F · false), m.2.2.2.map (mvS F))))
/-- A function is what an edits' move answers, at the places of some marks. -/
structure MvOk (f : Int → Bool → Option (Int × Unit)) (F : Int → Bool → Int) (m : Mk) : Prop where
  c : f m.1 true = some (F m.1 true, ())
  p : ∀ x ∈ m.2.2.1, f x false = some (F x false, ())
  s : ∀ x ∈ m.2.2.2, f x.1 true = some (F x.1 true, ()) ∧ f x.2 false = some (F x.2 false, ())
theorem get_mem {α : Type} {l : List α} {i : Nat} (h : i < l.length) : l[i] ∈ l := List.getElem_mem h
theorem move_p3 (el : List EdI) {F : Int → Bool → Int} {m : Mk} (M : MvOk (fun x b => s_edit_Move (el, (x, (b, ())))) F m) (hm : Sm m) (m4 : Mk) (c : Int) (ps : List Int) : ∀ (k i : Nat), m.2.2.2.length < k + i → i ≤ m.2.2.2.length →
    marks_Move.p3 fuel k el (m.2.2.2.length : Int) (i : Int) m4 (c, (m.2.1, (ps, stp (mvS F) m.2.2.2 i))) = some ((c, (m.2.1, (ps, m.2.2.2.map (mvS F)))), ())
  | 0, i, h, hi => by omega
  | k + 1, i, h, hi => by
    have step : marks_Move.p3 fuel (k + 1) el (m.2.2.2.length : Int) (i : Int) m4 (c, (m.2.1, (ps, stp (mvS F) m.2.2.2 i))) = marks_Move.t3 (marks_Move.p3 fuel k) (marks_Move.p4 fuel) el (m.2.2.2.length : Int) (i : Int) m4 (c, (m.2.1, (ps, stp (mvS F) m.2.2.2 i))) := rfl
    rw [step]
    have h60 := hm.2.2
    simp only [marks_Move.t3, iteB_dec]
    by_cases h1 : i < m.2.2.2.length
    · have hl : i < (stp (mvS F) m.2.2.2 i).length := by rw [stp_len]; exact h1
      obtain ⟨s1, s2⟩ := M.s _ (get_mem h1)
      have s1 : s_edit_Move (el, (m.2.2.2[i].1, (true, ()))) = some (F m.2.2.2[i].1 true, ()) := s1
      have s2 : s_edit_Move (el, (m.2.2.2[i].2, (false, ()))) = some (F m.2.2.2[i].2 false, ()) := s2
      have wi : w64 ((i : Int) + 1) = ((i + 1 : Nat) : Int) := w64_id (by omega) (by omega)
      rw [if_pos (by omega), withinR_nat hl, stp_get _ _ _ _ h1, s1, bindR_val, s2, bindR_val, withinR_nat hl, wi]
      have e : List.set (stp (mvS F) m.2.2.2 i) i (F m.2.2.2[i].1 true, maxI (F m.2.2.2[i].1 true) (F m.2.2.2[i].2 false)) = stp (mvS F) m.2.2.2 (i + 1) := stp_set (mvS F) m.2.2.2 i h1
      rw [e]
      exact move_p3 el M hm m4 c ps k (i + 1) (by omega) (by omega)
    · rw [if_neg (by omega), stp_all _ _ _ (by omega)]; rfl
theorem move_p1 (el : List EdI) {F : Int → Bool → Int} {m : Mk} (M : MvOk (fun x b => s_edit_Move (el, (x, (b, ())))) F m) (hm : Sm m) (m4 : Mk) (c : Int) : ∀ (k i : Nat), m.2.2.1.length < k + i → i ≤ m.2.2.1.length →
    marks_Move.p1 fuel k el (m.2.2.1.length : Int) (i : Int) m4 (c, (m.2.1, (stp (F · false) m.2.2.1 i, m.2.2.2))) = some ((c, (m.2.1, (m.2.2.1.map (F · false), m.2.2.2.map (mvS F)))), ())
  | 0, i, h, hi => by omega
  | k + 1, i, h, hi => by
    have step : marks_Move.p1 fuel (k + 1) el (m.2.2.1.length : Int) (i : Int) m4 (c, (m.2.1, (stp (F · false) m.2.2.1 i, m.2.2.2))) = marks_Move.t1 (marks_Move.p1 fuel k) (marks_Move.p2 fuel) el (m.2.2.1.length : Int) (i : Int) m4 (c, (m.2.1, (stp (F · false) m.2.2.1 i, m.2.2.2))) := rfl
    rw [step]
    have h60 := hm.2.1
    have h61 := hm.2.2
    simp only [marks_Move.t1, iteB_dec]
    by_cases h1 : i < m.2.2.1.length
    · have hl : i < (stp (F · false) m.2.2.1 i).length := by rw [stp_len]; exact h1
      have s1 : s_edit_Move (el, (m.2.2.1[i], (false, ()))) = some (F m.2.2.1[i] false, ()) := M.p _ (get_mem h1)
      have wi : w64 ((i : Int) + 1) = ((i + 1 : Nat) : Int) := w64_id (by omega) (by omega)
      rw [if_pos (by omega), withinR_nat hl, stp_get _ _ _ _ h1, s1, bindR_val, withinR_nat hl, wi]
      have e : List.set (stp (F · false) m.2.2.1 i) i (F m.2.2.1[i] false) = stp (F · false) m.2.2.1 (i + 1) := stp_set (F · false) m.2.2.1 i h1
      rw [e]
      exact move_p1 el M hm m4 c k (i + 1) (by omega) (by omega)
    · rw [if_neg (by omega), stp_all _ _ _ (by omega)]
      show marks_Move.p3 fuel fuel el (m.2.2.2.length : Int) ((0 : Nat) : Int) m4 (c, (m.2.1, (m.2.2.1.map (F · false), m.2.2.2))) = _
      have := move_p3 el M hm m4 c (m.2.2.1.map (F · false)) fuel 0 (by have := fuel_gt m.2.2.2.length (by omega); omega) (by omega)
      rw [stp_zero] at this
      exact this
theorem moveM_eq (el : List EdI) {F : Int → Bool → Int} {m : Mk} (M : MvOk (fun x b => s_edit_Move (el, (x, (b, ())))) F m) (hm : Sm m) : s_marks_Move (m, (el, ())) = some (mvM F m, ()) := by
  have st : s_marks_Move (m, (el, ())) = marks_Move.t0 (marks_Move.p1 fuel fuel) m el := rfl
  rw [st]
  have h60 := hm.2.1
  have hc : s_edit_Move (el, (m.1, (true, ()))) = some (F m.1 true, ()) := M.c
  simp only [marks_Move.t0, of_eq m hm, bindR_val, hc]
  have := move_p1 el M hm ((0 : Int), (([] : List (List UInt8)), (([] : List (Int)), ([] : List ((Int) × (Int)))))) (F m.1 true) fuel 0 (by have := fuel_gt m.2.2.1.length (by omega); omega) (by omega)
  rw [stp_zero] at this
  exact this

end Go.Proofs.Ytdifekkamjoepaa.Vm.Rp
namespace Go.Proofs.Ytdifekkamjoepaa.Vm.Rp
open Go Go.Proofs.Ytdifekkamjoepaa.Vm
set_option linter.unusedVariables false
set_option maxRecDepth 100000

theorem bl_irr : ∀ (x : List UInt8), Op.bytesLess x x = false
  | [] => rfl
  | a :: x => by simp [Op.bytesLess, bl_irr x]
theorem bl_trans : ∀ (x y z : List UInt8), Op.bytesLess x y = true → Op.bytesLess y z = true → Op.bytesLess x z = true
  | x, [], z, h, _ => by cases x <;> simp [Op.bytesLess] at h
  | x, b :: y, [], _, h => by simp [Op.bytesLess] at h
  | [], b :: y, c :: z, _, _ => rfl
  | a :: x, b :: y, c :: z, h, k => by
    simp only [Op.bytesLess, Bool.or_eq_true, decide_eq_true_eq, Bool.and_eq_true, beq_iff_eq] at h k ⊢
    rcases h with h | ⟨rfl, h⟩
    · rcases k with k | ⟨rfl, k⟩
      · left
        have := UInt8.lt_iff_toNat_lt.1 h
        have := UInt8.lt_iff_toNat_lt.1 k
        exact UInt8.lt_iff_toNat_lt.2 (by omega)
      · exact .inl h
    · rcases k with k | ⟨rfl, k⟩
      · exact .inl k
      · exact .inr ⟨rfl, bl_trans x y z h k⟩
def spOk (n : Int) (s : Int × Int) : Bool := decide (0 ≤ s.1 ∧ s.1 ≤ s.2 ∧ s.2 ≤ n)
theorem isName_eq (x : List UInt8) : s_marks_isName (x, ()) = some (decide (1 ≤ x.length ∧ x.length ≤ 16), ()) := by
  show marks_isName.t0 x = _
  unfold marks_isName.t0
  cases x with
  | nil => rfl
  | cons a x =>
    rw [decide_eq_false (by simp), Bool.not_false, iteB_true]
    congr 2
    by_cases h : (a :: x).length ≤ 16
    · rw [decide_eq_true (by omega), decide_eq_true (by simp at h ⊢; omega)]
    · rw [decide_eq_false (by omega), decide_eq_false (by omega)]
theorem isSpan_eq (s : Int × Int) (n : Int) : s_marks_isSpan (s, (n, ())) = some (spOk n s, ()) := by
  show marks_isSpan.t0 s n = _
  unfold marks_isSpan.t0 spOk
  rw [iteB_dec, iteB_dec]
  by_cases c1 : 0 ≤ s.1
  · rw [if_pos c1]
    by_cases c2 : s.1 ≤ s.2
    · rw [if_pos c2]; congr 2
      by_cases c3 : s.2 ≤ n
      · rw [decide_eq_true c3, decide_eq_true ⟨c1, c2, c3⟩]
      · rw [decide_eq_false c3, decide_eq_false (fun h => c3 h.2.2)]
    · rw [if_neg c2, decide_eq_false (fun h => c2 h.2.1)]
  · rw [if_neg c1, decide_eq_false (fun h => c1 h.1)]
end Go.Proofs.Ytdifekkamjoepaa.Vm.Rp
namespace Go.Proofs.Ytdifekkamjoepaa.Vm.Rp
open Go Go.Proofs.Ytdifekkamjoepaa.Vm
set_option linter.unusedVariables false
set_option maxRecDepth 100000

abbrev nmg (l : List (List UInt8)) (i : Nat) : List UInt8 := l.getD i []
def Srt (l : List (List UInt8)) : Prop := ∀ i j, i < j → j < l.length → Op.bytesLess (nmg l i) (nmg l j) = true
/-- Where a name belongs. -/
structure AtP (l : List (List UInt8)) (x : List UInt8) (p : Nat) : Prop where
  le : p ≤ l.length
  lo : ∀ j, j < p → Op.bytesLess (nmg l j) x = true
  up : ∀ j, p ≤ j → j < l.length → Op.bytesLess (nmg l j) x = false
def fnd (l : List (List UInt8)) (x : List UInt8) (p : Nat) : Bool := decide (p < l.length ∧ nmg l p = x)
theorem half (a b : Nat) (ha : a ≤ 1000000) (hb : b ≤ 1000000) : w64 (shrI .u64 (IntKind.wrap .u64 (w64 ((a : Int) + (b : Int)))) (1 : Int)) = (((a + b) / 2 : Nat) : Int) := by
  rw [w64_id (n := (a : Int) + (b : Int)) (by omega) (by omega)]
  have e : IntKind.wrap .u64 ((a : Int) + (b : Int)) = (a : Int) + (b : Int) := by
    show Int.emod ((a : Int) + (b : Int)) 18446744073709551616 = _
    exact Int.emod_eq_of_lt (by omega) (by omega)
  rw [e]
  have e2 : shrI .u64 ((a : Int) + (b : Int)) (1 : Int) = (((a + b) / 2 : Nat) : Int) := by
    show ((a : Int) + (b : Int)).fdiv (2 ^ 1) = _
    rw [Int.fdiv_eq_ediv_of_nonneg _ (by omega)]
    omega
  rw [e2, w64_id (by omega) (by omega)]
theorem less_eq (x y : List UInt8) : s_cmp_Less (x, (y, ())) = some (Op.bytesLess x y, ()) := by
  have e : s_cmp_isNaN (x, ()) = some (!decide (x = x), ()) := rfl
  show cmp_Less.t0 x y = _
  unfold cmp_Less.t0
  rw [e, decide_eq_true rfl]; rfl
theorem bs_p2 (l : List (List UInt8)) (x : List UInt8) (p : Nat) (hp : p ≤ l.length) : slices_BinarySearch.p2 fuel l x (l.length : Int) (p : Int) = some (((p : Int), fnd l x p), ()) := by
  show slices_BinarySearch.t2 l x (l.length : Int) (p : Int) = _
  simp only [slices_BinarySearch.t2, iteB_dec]
  by_cases h1 : p < l.length
  · have e : s_slices_isNaN (l.getD p [], ()) = some (!decide (l.getD p [] = l.getD p []), ()) := rfl
    rw [if_pos (by omega), withinR_nat h1]
    by_cases h2 : l.getD p [] = x
    · rw [if_pos h2, show fnd l x p = true from decide_eq_true ⟨h1, h2⟩]
    · rw [if_neg h2, withinR_nat h1, e, decide_eq_true rfl, show fnd l x p = false from decide_eq_false (fun h => h2 h.2)]; rfl
  · rw [if_neg (by omega), show fnd l x p = false from decide_eq_false (fun h => h1 h.1)]
theorem bs_p1 (l : List (List UInt8)) (x : List UInt8) (hl : l.length ≤ 1000000) (S : Srt l) : ∀ (k lo hi : Nat), hi < k + lo → lo ≤ hi → hi ≤ l.length → (∀ j, j < lo → Op.bytesLess (nmg l j) x = true) → (∀ j, hi ≤ j → j < l.length → Op.bytesLess (nmg l j) x = false) →
    ∃ p, AtP l x p ∧ slices_BinarySearch.p1 fuel k l x (l.length : Int) (lo : Int) (hi : Int) = some (((p : Int), fnd l x p), ())
  | 0, lo, hi, hk, h1, h2, h3, h4 => by omega
  | k + 1, lo, hi, hk, h1, h2, h3, h4 => by
    have step : slices_BinarySearch.p1 fuel (k + 1) l x (l.length : Int) (lo : Int) (hi : Int) = slices_BinarySearch.t1 (slices_BinarySearch.p1 fuel k) (slices_BinarySearch.p2 fuel) l x (l.length : Int) (lo : Int) (hi : Int) := rfl
    rw [step]
    simp only [slices_BinarySearch.t1, iteB_dec, half lo hi (by omega) (by omega)]
    by_cases c : lo < hi
    · have hm : (lo + hi) / 2 < l.length := by omega
      have w1 : w64 ((((lo + hi) / 2 : Nat) : Int) + 1) = (((lo + hi) / 2 + 1 : Nat) : Int) := w64_id (by omega) (by omega)
      rw [if_pos (by omega), withinR_nat hm, less_eq, bindR_val]
      cases hb : Op.bytesLess (l.getD ((lo + hi) / 2) []) x
      · rw [iteB_false]
        refine bs_p1 l x hl S k lo ((lo + hi) / 2) (by omega) (by omega) (by omega) h3 (fun j hj hjl => ?_)
        by_cases e : j = (lo + hi) / 2
        · subst e; exact hb
        · cases hq : Op.bytesLess (nmg l j) x
          · rfl
          · have := bl_trans _ _ _ (S ((lo + hi) / 2) j (by omega) hjl) hq
            rw [show Op.bytesLess (nmg l ((lo + hi) / 2)) x = false from hb] at this; cases this
      · rw [iteB_true, w1]
        refine bs_p1 l x hl S k ((lo + hi) / 2 + 1) hi (by omega) (by omega) h2 (fun j hj => ?_) h4
        by_cases e : j = (lo + hi) / 2
        · subst e; exact hb
        · exact bl_trans _ _ _ (S j ((lo + hi) / 2) (by omega) hm) hb
    · have e : lo = hi := by omega
      subst e
      rw [if_neg (by omega)]
      exact ⟨lo, ⟨h2, h3, h4⟩, bs_p2 l x lo h2⟩
theorem bs_eq (l : List (List UInt8)) (x : List UInt8) (hl : l.length ≤ 1000) (S : Srt l) : ∃ p, AtP l x p ∧ s_slices_BinarySearch (l, (x, ())) = some (((p : Int), fnd l x p), ()) :=
  bs_p1 l x (by omega) S fuel 0 l.length (by have := fuel_gt l.length (by omega); omega) (by omega) (by omega) (fun j hj => by omega) (fun j h1 h2 => by omega)

def ins {α : Type} (l : List α) (p : Nat) (x : α) : List α := l.take p ++ x :: l.drop p
def put {α : Type} (l : List α) (p : Nat) (f : Bool) (x : α) : List α := l.take p ++ x :: l.drop (if f = true then p + 1 else p)
def setM (m : Mk) (x : List UInt8) (at_ : Int) (p : Nat) : Mk := (m.1, (put m.2.1 p (fnd m.2.1 x p) x, (put m.2.2.1 p (fnd m.2.1 x p) at_, m.2.2.2)))
theorem insS (l : List (List UInt8)) (p : Nat) (x : List UInt8) (hp : p ≤ l.length) (hl : l.length ≤ 1000000) : s_InsertS l ((p : Int), ()) [x] = some (ins l p x) := by
  rw [InsertS_is]
  show (match decide (0 ≤ (p : Int) ∧ (p : Int) ≤ (l.length : Int) ∧ l.length ≤ 1000000) with | true => some (l.take (p : Int).toNat ++ x :: l.drop (p : Int).toNat) | false => none) = _
  rw [decide_eq_true (by omega)]; rfl
theorem insI (l : List Int) (p : Nat) (x : Int) (hp : p ≤ l.length) (hl : l.length ≤ 1000000) : s_InsertI l ((p : Int), ()) [x] = some (ins l p x) := by
  rw [InsertI_is]
  show (match decide (0 ≤ (p : Int) ∧ (p : Int) ≤ (l.length : Int) ∧ l.length ≤ 1000000) with | true => some (l.take (p : Int).toNat ++ x :: l.drop (p : Int).toNat) | false => none) = _
  rw [decide_eq_true (by omega)]; rfl
theorem set_p3 (m m8 : Mk) (x : List UInt8) (at_ : Int) (p : Nat) (hm : Sm m) (hl : m.2.1.length = m.2.2.1.length) (hp : p ≤ m.2.1.length) : marks_Set.p3 fuel x at_ (p : Int) (fnd m.2.1 x p) m m8 = some ((setM m x at_ p, 0), ()) := by
  have h1 := hm.1
  have h2 := hm.2.1
  have e1 := insS m.2.1 p x hp (by omega)
  have e2 := insI m.2.2.1 p at_ (by omega) (by omega)
  show marks_Set.t3 x at_ (p : Int) (fnd m.2.1 x p) m m8 = _
  cases hf : fnd m.2.1 x p
  · simp only [marks_Set.t3, of_eq m hm, bindR_val, iteB_false, e1, e2, meetK_self]
    unfold setM
    rw [hf]; rfl
  · obtain ⟨h3, h4⟩ := of_decide_eq_true hf
    simp only [marks_Set.t3, of_eq m hm, bindR_val, iteB_true, withinR_nat (show p < m.2.2.1.length by omega)]
    unfold setM
    rw [hf]
    have q1 : put m.2.1 p true x = m.2.1 := by
      unfold put
      have : m.2.1[p] = x := by rw [← h4]; simp [nmg, h3]
      rw [if_pos rfl, ← this, ← List.drop_eq_getElem_cons h3, List.take_append_drop]
    have q2 : put m.2.2.1 p true at_ = m.2.2.1.set p at_ := by
      unfold put
      rw [if_pos rfl, List.set_eq_take_append_cons_drop, if_pos (by omega)]
    rw [q1, q2]
/-- What Set answers. -/
def setR (m : Mk) (x : List UInt8) (at_ n : Int) (p : Nat) : Mk × Int :=
  if ¬ (1 ≤ x.length ∧ x.length ≤ 16) then (mk0, 1) else if at_ < 0 ∨ n < at_ then (mk0, 3) else if fnd m.2.1 x p = false ∧ 32 ≤ m.2.1.length then (mk0, 13) else (setM m x at_ p, 0)
theorem set_eq (m : Mk) (x : List UInt8) (at_ n : Int) (p : Nat) (hm : Sm m) (hl : m.2.1.length = m.2.2.1.length) (A : AtP m.2.1 x p) (B : s_slices_BinarySearch (m.2.1, (x, ())) = some (((p : Int), fnd m.2.1 x p), ())) :
    s_marks_Set (m, (x, (at_, (n, ())))) = some (setR m x at_ n p, ()) := by
  have st : s_marks_Set (m, (x, (at_, (n, ())))) = marks_Set.t0 (marks_Set.p1 fuel) m x at_ n := rfl
  rw [st]
  have p1t : marks_Set.p1 fuel x at_ (p : Int) (fnd m.2.1 x p) true m mk0 = some ((mk0, 3), ()) := rfl
  have p1f : marks_Set.p1 fuel x at_ (p : Int) (fnd m.2.1 x p) false m mk0 = iteB (notB (fnd m.2.1 x p)) (marks_Set.p2 fuel x at_ (p : Int) (fnd m.2.1 x p) (decide ((32 : Int) ≤ ((List.length m.2.1 : Nat) : Int))) m mk0) (marks_Set.p2 fuel x at_ (p : Int) (fnd m.2.1 x p) false m mk0) := rfl
  have p2t : marks_Set.p2 fuel x at_ (p : Int) (fnd m.2.1 x p) true m mk0 = some ((mk0, 13), ()) := rfl
  have p2f : marks_Set.p2 fuel x at_ (p : Int) (fnd m.2.1 x p) false m mk0 = some ((setM m x at_ p, 0), ()) := set_p3 m mk0 x at_ p hm hl A.le
  have key : ∀ b : Bool, marks_Set.p1 fuel x at_ (p : Int) (fnd m.2.1 x p) b m mk0 = some (if b = true then (mk0, 3) else if fnd m.2.1 x p = false ∧ 32 ≤ m.2.1.length then (mk0, 13) else (setM m x at_ p, 0), ()) := fun b => by
    cases b
    · rw [p1f, if_neg (by decide)]
      cases hf : fnd m.2.1 x p
      · rw [notB_false, iteB_true]
        rw [hf] at p2t p2f
        by_cases c : 32 ≤ m.2.1.length
        · rw [decide_eq_true (by omega), p2t, if_pos ⟨rfl, c⟩]
        · rw [decide_eq_false (by omega), p2f, if_neg (fun h => c h.2)]
      · rw [notB_true, iteB_false]
        rw [hf] at p2f
        rw [p2f, if_neg (fun h => by cases h.1)]
    · rw [p1t, if_pos rfl]
  simp only [marks_Set.t0, B, isName_eq, bindR_val, iteB_dec]
  unfold setR
  by_cases c : 1 ≤ x.length ∧ x.length ≤ 16
  · rw [decide_eq_true c, notB_true, iteB_false, if_neg (c := ¬ (1 ≤ x.length ∧ x.length ≤ 16)) (fun h => h c)]
    by_cases c1 : at_ < 0
    · rw [if_pos c1]
      refine (key true).trans ?_
      rw [if_pos rfl, if_pos (.inl c1)]
    · rw [if_neg c1]
      refine (key (decide (n < at_))).trans ?_
      by_cases c2 : n < at_
      · rw [decide_eq_true c2, if_pos rfl, if_pos (.inr c2)]
      · rw [decide_eq_false c2, if_neg (by decide), if_neg (c := at_ < 0 ∨ n < at_) (by omega)]
  · rw [decide_eq_false c, notB_false, iteB_true, if_pos (c := ¬ (1 ≤ x.length ∧ x.length ≤ 16)) c]; rfl

theorem place_eq (m : Mk) (x : List UInt8) (p : Nat) (hl : m.2.1.length = m.2.2.1.length) (A : AtP m.2.1 x p) (B : s_slices_BinarySearch (m.2.1, (x, ())) = some (((p : Int), fnd m.2.1 x p), ())) :
    s_marks_Place (m, (x, ())) = some ((if fnd m.2.1 x p = true then m.2.2.1.getD p 0 else 0, fnd m.2.1 x p), ()) := by
  have st : s_marks_Place (m, (x, ())) = marks_Place.t0 (marks_Place.p1 fuel) m x := rfl
  rw [st]
  simp only [marks_Place.t0, B, bindR_val]
  cases hf : fnd m.2.1 x p
  · rw [notB_false, iteB_true]; rfl
  · obtain ⟨h3, h4⟩ := of_decide_eq_true hf
    rw [notB_true, iteB_false, decide_eq_false (by omega)]
    show marks_Place.t2 (p : Int) m = _
    simp only [marks_Place.t2, withinR_nat (show p < m.2.2.1.length by omega)]
    rfl
end Go.Proofs.Ytdifekkamjoepaa.Vm.Rp
namespace Go.Proofs.Ytdifekkamjoepaa.Vm.Rp
open Go Go.Proofs.Ytdifekkamjoepaa.Vm
set_option linter.unusedVariables false
set_option maxRecDepth 100000

structure Rt (m : Mk) (n : Int) : Prop where
  c0 : 0 ≤ m.1
  c1 : m.1 ≤ n
  len : m.2.1.length = m.2.2.1.length
  l32 : m.2.1.length ≤ 32
  s32 : m.2.2.2.length ≤ 32
  nm : ∀ i, i < m.2.1.length → 1 ≤ (nmg m.2.1 i).length ∧ (nmg m.2.1 i).length ≤ 16
  ord : ∀ i, 0 < i → i < m.2.1.length → Op.bytesLess (nmg m.2.1 (i - 1)) (nmg m.2.1 i) = true
  pl : ∀ i, i < m.2.1.length → 0 ≤ m.2.2.1.getD i (0 : Int) ∧ m.2.2.1.getD i (0 : Int) ≤ n
  sp : ∀ s ∈ m.2.2.2, 0 ≤ s.1 ∧ s.1 ≤ s.2 ∧ s.2 ≤ n
theorem Rt.mem {m : Mk} {n : Int} (h : Rt m n) : ∀ x ∈ m.2.2.1, 0 ≤ x ∧ x ≤ n := fun x hx => by
  obtain ⟨i, hi, rfl⟩ := List.mem_iff_getElem.1 hx
  have hi' : i < m.2.1.length := by have := h.len; omega
  have := h.pl i hi'
  rwa [show m.2.2.1.getD i (0 : Int) = m.2.2.1[i] by simp [hi]] at this

abbrev MV (l : List Ed) : Int → Bool → Int := fun x b => mv 0 x b x l
structure InB (m : Mk) (lo hi : Int) : Prop where
  c : lo ≤ m.1 ∧ m.1 ≤ hi
  p : ∀ x ∈ m.2.2.1, lo ≤ x ∧ x ≤ hi
  s : ∀ s ∈ m.2.2.2, (lo ≤ s.1 ∧ s.1 ≤ hi) ∧ lo ≤ s.2 ∧ s.2 ≤ hi
theorem mvOk (n : Nat) (hn : n ≤ 10000) (l : List Ed) (H : SmallN l) (hN : Num n 0 l) {m : Mk} (B : InB m (-1000000) 1000000) : MvOk (fun x b => s_edit_Move (l.map cE, (x, (b, ())))) (MV l) m :=
  ⟨Move_eq n hn l H hN _ _ B.c.1 B.c.2, fun x hx => Move_eq n hn l H hN _ _ (B.p x hx).1 (B.p x hx).2, fun s hs => ⟨Move_eq n hn l H hN _ _ (B.s s hs).1.1 (B.s s hs).1.2, Move_eq n hn l H hN _ _ (B.s s hs).2.1 (B.s s hs).2.2⟩⟩
theorem mvi_flag (a d n : Nat) (x : Int) (h : (a : Int) ≤ x) : mvi a d n x false ≤ mvi a d n x true := by
  unfold mvi
  split
  · exact Int.le_refl _
  · split <;> split <;> simp_all <;> omega
theorem mv_flag (x : Int) : ∀ (l : List Ed) (g to to2 : Int), to ≤ to2 → mv g x false to l ≤ mv g x true to2 l
  | [], g, to, to2, h => h
  | o :: l, g, to, to2, h => by
    rw [mv, mv]
    by_cases c : x < (o.1 : Int)
    · rw [if_pos c, if_pos c]; exact h
    · rw [if_neg c, if_neg c]
      exact mv_flag x l _ _ _ (by have := mvi_flag o.1 o.2.1 o.2.2.length x (by omega); omega)
structure OutM (m : Mk) (l : List Ed) : Prop where
  c : Out m.1 l
  p : ∀ x ∈ m.2.2.1, Out x l
  s : ∀ s ∈ m.2.2.2, Out s.1 l ∧ Out s.2 l
theorem push_eq (m : Mk) (a b n : Int) (hm : Sm m) (h : spOk n (a, b) = true) (h32 : m.2.2.2.length < 32) : s_marks_Push (m, (a, (b, (n, ())))) = some (((m.1, (m.2.1, (m.2.2.1, m.2.2.2 ++ [(a, b)]))), 0), ()) := by
  have st : s_marks_Push (m, (a, (b, (n, ())))) = marks_Push.t0 m a b n := rfl
  rw [st]
  simp only [marks_Push.t0, isSpan_eq, bindR_val, h, notB_true, iteB_false]
  rw [decide_eq_false (by omega), iteB_false, of_eq m hm, bindR_val, room_ok (by simp; omega), mustR_true]
abbrev xyN : List Ed := [(2, (0, [120, 121]))]
theorem alive25 : s_law25_alive () = some (true, ()) := by
  have st : s_law25_alive () = law25_alive.t0 := rfl
  rw [st]
  have S0 : Srt [] := fun i j _ h => by simp at h
  obtain ⟨p, A, B⟩ := bs_eq [] [97] (by simp) S0
  have hp : p = 0 := by have := A.le; simpa using this
  subst hp
  have e1 : s_marks_Set (((2 : Int), (([] : List (List UInt8)), (([] : List (Int)), ([] : List ((Int) × (Int)))))), (([97] : List UInt8), ((2 : Int), ((3 : Int), ())))) = some (((2, ([[97]], ([2], []))), 0), ()) :=
    (set_eq (2, ([], ([], []))) [97] 2 3 0 ⟨by simp, by simp, by simp⟩ rfl A B).trans rfl
  have e2 : s_marks_Push (((2 : Int), (([[97]] : List (List UInt8)), (([2] : List (Int)), ([] : List ((Int) × (Int)))))), ((1 : Int), ((2 : Int), ((3 : Int), ())))) = some (((2, ([[97]], ([2], [(1, 2)]))), 0), ()) :=
    push_eq (2, ([[97]], ([2], []))) 1 2 3 ⟨by simp, by simp, by simp⟩ rfl (by simp)
  have hS : SmallN xyN := ⟨by simp, fun o ho => by rw [List.mem_singleton.1 ho]; simp⟩
  have hN : Num 3 0 xyN := ⟨by omega, by simp, trivial⟩
  have e3 : s_marks_Move (((2 : Int), (([[97]] : List (List UInt8)), (([2] : List (Int)), ([(1, 2)] : List ((Int) × (Int)))))), (([((2 : Int), ((0 : Int), ([120, 121] : List UInt8)))] : List ((Int) × ((Int) × (List UInt8)))), ())) = some ((4, ([[97]], ([2], [(1, 2)]))), ()) := by
    refine (moveM_eq (xyN.map cE) (m := (2, ([[97]], ([2], [(1, 2)])))) (mvOk 3 (by omega) xyN hS hN ⟨by simp, fun x hx => ?_, fun x hx => ?_⟩) ⟨by simp, by simp, by simp⟩).trans ?_
    · rw [List.mem_singleton.1 hx]; omega
    · rw [List.mem_singleton.1 hx]; simp
    · have : max (1 : Int) 2 = 2 := by omega
      simp [mvM, mvS, MV, mv, mvi, this]
  have S1 : Srt [[97]] := fun i j h1 h => by simp at h; omega
  obtain ⟨q, A2, B2⟩ := bs_eq [[97]] [97] (by simp) S1
  have hq : q = 0 := by
    have := A2.le
    by_cases c : q = 0
    · exact c
    · have := A2.lo 0 (by omega)
      rw [show nmg [[97]] 0 = [97] from rfl, bl_irr] at this; cases this
  subst hq
  have e4 : s_marks_Place (((4 : Int), (([[97]] : List (List UInt8)), (([2] : List (Int)), ([(1, 2)] : List ((Int) × (Int)))))), (([97] : List UInt8), ())) = some ((2, true), ()) :=
    (place_eq (4, ([[97]], ([2], [(1, 2)]))) [97] 0 rfl A2 B2).trans rfl
  have e5 : s_marks_Top (((4 : Int), (([[97]] : List (List UInt8)), (([2] : List (Int)), ([(1, 2)] : List ((Int) × (Int)))))), ()) = some ((1, (2, true)), ()) := by kernel_rfl
  simp only [law25_alive.t0, e1, e2, e3, e4, e5, bindR_val]
  rfl

theorem orderLaw (s : List UInt8) (a b : Int) (l : List EdI) : s_law25_MarksOrder (s, (a, (b, (l, ())))) = some (true, ()) := by
  have st : s_law25_MarksOrder (s, (a, (b, (l, ())))) = law25_MarksOrder.t0 (law25_MarksOrder.p1 fuel) s a b l := rfl
  rw [st]
  have t1t : law25_MarksOrder.p1 fuel a b l true = some (true, ()) := rfl
  have t1f : law25_MarksOrder.p1 fuel a b l false = law25_MarksOrder.t2 a b l := by kernel_rfl
  obtain ⟨g, G, hG⟩ := Great_eq l
  simp only [law25_MarksOrder.t0, alive25, bindR_val, notB_true, iteB_false, iteB_dec, G]
  by_cases c : (500 : Int) < (s.length : Int)
  · rw [if_pos c]; exact t1t
  rw [if_neg c]
  cases g with
  | true => rw [iteB_true]; exact t1t
  | false =>
    have H := hG rfl
    rw [iteB_false, rcheck_eq s (by omega) _ H, bindR_val]
    by_cases hc : chk s 0 s.length l = 0
    · show iteB (!decide (chk s 0 s.length l = 0)) _ _ = _
      rw [decide_eq_true hc, Bool.not_true, iteB_false]
      by_cases c1 : a < 0
      · rw [if_pos c1]; exact t1t
      rw [if_neg c1]
      by_cases c2 : b < a
      · rw [if_pos c2]; exact t1t
      rw [if_neg c2]
      by_cases c3 : (s.length : Int) < b
      · rw [decide_eq_true c3]; exact t1t
      rw [decide_eq_false c3, t1f]
      obtain ⟨lN, rfl, hN, hE, hg⟩ := chk_zero s l 0 _ hc
      have hS := H.nat
      have B : InB (b, ([[97], [98]], ([a, b], [(a, b)]))) (-1000000) 1000000 := ⟨⟨by show _ ≤ b; omega, by show b ≤ _; omega⟩, fun x hx => by simp at hx; omega, fun x hx => by rw [List.mem_singleton.1 hx]; show (_ ≤ a ∧ a ≤ _) ∧ _ ≤ b ∧ b ≤ _; omega⟩
      have e := moveM_eq (lN.map cE) (m := (b, ([[97], [98]], ([a, b], [(a, b)])))) (mvOk s.length (by omega) lN hS hN B) ⟨by simp, by simp, by simp⟩
      have mo := mv_mono false s.length a b (by omega) lN 0 0 a b hN (.inr (by omega)) (by omega)
      have mo : MV lN a false ≤ MV lN b false := mo
      have fl : MV lN b false ≤ MV lN b true := mv_flag b lN 0 b b (Int.le_refl _)
      have e' : s_marks_Move ((b, (([([97] : List UInt8), ([98] : List UInt8)] : List (List UInt8)), (([a, b] : List (Int)), ([(a, b)] : List ((Int) × (Int)))))), (lN.map cE, ())) = some ((MV lN b true, ([[97], [98]], ([MV lN a false, MV lN b false], [(MV lN a true, max (MV lN a true) (MV lN b false))]))), ()) := e
      simp only [law25_MarksOrder.t2, e', bindR_val]
      show (iteB (decide (MV lN a false ≤ MV lN b false)) (iteB (decide (MV lN b false ≤ MV lN b true)) (some (decide (MV lN a true ≤ max (MV lN a true) (MV lN b false)), ())) (some (false, ()))) (some (false, ()))) = some (true, ())
      rw [decide_eq_true mo, decide_eq_true fl, decide_eq_true (by omega)]; rfl
    · show iteB (!decide (chk s 0 s.length l = 0)) _ _ = _
      rw [decide_eq_false hc, Bool.not_false, iteB_true]; exact t1t

end Go.Proofs.Ytdifekkamjoepaa.Vm.Rp
