/- The plain laws of marks. -/
import Derived.Test.YtdifekkamjoepaaFnsMarks
import Derived.Test.YtdifekkamjoepaaLawEdit
import Derived.Test.YtdifekkamjoepaaIns
namespace Go.Proofs.Ytdifekkamjoepaa.Vm.Rp
open Go Go.Proofs.Ytdifekkamjoepaa.Vm
set_option linter.unusedVariables false
set_option maxRecDepth 100000

abbrev Mk := Int × (List (List UInt8) × (List Int × List (Int × Int)))
def mk0 : Mk := ((0 : Int), (([] : List (List UInt8)), (([] : List (Int)), ([] : List ((Int) × (Int))))))
theorem room_ok {β γ : Type} {l1 : List β} {l2 : List γ} (h : l1.length + l2.length ≤ 34359738368) : room l1 l2 = true := by
  unfold room; exact decide_eq_true (by omega)
theorem nilR_same {α β : Type} {l : List β} {a b : Option α} (h : l = [] → a = b) : nilR (List.isEmpty l) a b = b := by
  cases l with
  | nil => rw [h rfl]; exact meetK_self b
  | cons x l => rfl
theorem clone_eq (l : List (List UInt8)) (h : l.length ≤ 1000000) : s_slices_Clone (l, ()) = some (l, ()) := by
  show slices_Clone.t0 l = _
  unfold slices_Clone.t0
  rw [nilR_same (fun h => by subst h; rfl), room_ok (by simp; omega)]; rfl
theorem clonex_eq (l : List Int) (h : l.length ≤ 1000000) : s_slices_Clonex (l, ()) = some (l, ()) := by
  show slices_Clonex.t0 l = _
  unfold slices_Clonex.t0
  rw [nilR_same (fun h => by subst h; rfl), room_ok (by simp; omega)]; rfl
theorem clonexx_eq (l : List (Int × Int)) (h : l.length ≤ 1000000) : s_slices_Clonexx (l, ()) = some (l, ()) := by
  show slices_Clonexx.t0 l = _
  unfold slices_Clonexx.t0
  rw [nilR_same (fun h => by subst h; rfl), room_ok (by simp; omega)]; rfl
/-- Few enough. -/
def Sm (m : Mk) : Prop := m.2.1.length ≤ 60 ∧ m.2.2.1.length ≤ 60 ∧ m.2.2.2.length ≤ 60
theorem of_eq (m : Mk) (h : Sm m) : s_marks_of (m, ()) = some (m, ()) := by
  obtain ⟨c, n, p, s⟩ := m
  obtain ⟨h1, h2, h3⟩ := h
  show marks_of.t0 (c, (n, (p, s))) = _
  simp only [marks_of.t0]
  rw [clone_eq n (by simp at h1; omega), bindR_val, clonex_eq p (by simp at h2; omega), bindR_val, clonexx_eq s (by simp at h3; omega), bindR_val]

def stp {α : Type} (f : α → α) (l : List α) (i : Nat) : List α := (l.take i).map f ++ l.drop i
theorem stp_len {α : Type} (f : α → α) (l : List α) (i : Nat) : (stp f l i).length = l.length := by simp [stp]; omega
theorem stp_zero {α : Type} (f : α → α) (l : List α) : stp f l 0 = l := by simp [stp]
theorem stp_all {α : Type} (f : α → α) (l : List α) (i : Nat) (h : l.length ≤ i) : stp f l i = l.map f := by
  simp [stp, List.take_of_length_le h, List.drop_of_length_le h]
theorem stp_get {α : Type} (f : α → α) (l : List α) (i : Nat) (d : α) (h : i < l.length) : (stp f l i).getD i d = l[i] := by
  have e : ((l.take i).map f).length = i := by simp; omega
  rw [stp, List.getD_eq_getElem?_getD, List.getElem?_append_right (by omega), e, List.getElem?_drop]
  simp [h]
theorem stp_set {α : Type} (f : α → α) (l : List α) (i : Nat) (h : i < l.length) : (stp f l i).set i (f l[i]) = stp f l (i + 1) := by
  have e : ((l.take i).map f).length = i := by simp; omega
  unfold stp
  rw [List.set_append_right _ _ (by omega), e, Nat.sub_self, List.drop_eq_getElem_cons h, List.set_cons_zero, ← List.take_append_getElem h, List.map_append]
  simp

def mvS (F : Int → Bool → Int) (s : Int × Int) : Int × Int := (F s.1 true, max (F s.1 true) (F s.2 false))
def mvM (F : Int → Bool → Int) (m : Mk) : Mk := (F m.1 true, (m.2.1, (m.2.2.1.map (F · false), m.2.2.2.map (mvS F))))
/-- A function is what an edits' move answers, at the places of some marks. -/
structure MvOk (f : Int → Bool → Option (Int × Unit)) (F : Int → Bool → Int) (m : Mk) : Prop where
  c : f m.1 true = some (F m.1 true, ())
  p : ∀ x ∈ m.2.2.1, f x false = some (F x false, ())
  s : ∀ x ∈ m.2.2.2, f x.1 true = some (F x.1 true, ()) ∧ f x.2 false = some (F x.2 false, ())
theorem get_mem {α : Type} {l : List α} {i : Nat} (h : i < l.length) : l[i] ∈ l := List.getElem_mem h
theorem move_p3 (el : List EdI) {F : Int → Bool → Int} {m : Mk} (M : MvOk (fun x b => s_edit_Move (el, (x, (b, ())))) F m) (hm : Sm m) (m4 : Mk) (c : Int) (ps : List Int) : ∀ (k i : Nat), m.2.2.2.length < k + i → i ≤ m.2.2.2.length →
    marks_Move.p3 fuel k el (m.2.2.2.length : Int) (i : Int) m4 (c, (m.2.1, (ps, stp (mvS F) m.2.2.2 i))) = some ((c, (m.2.1, (ps, m.2.2.2.map (mvS F)))), ())
  | 0, i, h, hi => by omega
  | k + 1, i, h, hi => by
    have step : marks_Move.p3 fuel (k + 1) el (m.2.2.2.length : Int) (i : Int) m4 (c, (m.2.1, (ps, stp (mvS F) m.2.2.2 i))) = marks_Move.t3 (marks_Move.p3 fuel k) (marks_Move.p4 fuel) el (m.2.2.2.length : Int) (i : Int) m4 (c, (m.2.1, (ps, stp (mvS F) m.2.2.2 i))) := rfl
    rw [step]
    have h60 := hm.2.2
    simp only [marks_Move.t3, iteB_dec]
    by_cases h1 : i < m.2.2.2.length
    · have hl : i < (stp (mvS F) m.2.2.2 i).length := by rw [stp_len]; exact h1
      obtain ⟨s1, s2⟩ := M.s _ (get_mem h1)
      have s1 : s_edit_Move (el, (m.2.2.2[i].1, (true, ()))) = some (F m.2.2.2[i].1 true, ()) := s1
      have s2 : s_edit_Move (el, (m.2.2.2[i].2, (false, ()))) = some (F m.2.2.2[i].2 false, ()) := s2
      have wi : w64 ((i : Int) + 1) = ((i + 1 : Nat) : Int) := w64_id (by omega) (by omega)
      rw [if_pos (by omega), withinR_nat hl, stp_get _ _ _ _ h1, s1, bindR_val, s2, bindR_val, withinR_nat hl, wi]
      have e : List.set (stp (mvS F) m.2.2.2 i) i (F m.2.2.2[i].1 true, maxI (F m.2.2.2[i].1 true) (F m.2.2.2[i].2 false)) = stp (mvS F) m.2.2.2 (i + 1) := stp_set (mvS F) m.2.2.2 i h1
      rw [e]
      exact move_p3 el M hm m4 c ps k (i + 1) (by omega) (by omega)
    · rw [if_neg (by omega), stp_all _ _ _ (by omega)]; rfl
theorem move_p1 (el : List EdI) {F : Int → Bool → Int} {m : Mk} (M : MvOk (fun x b => s_edit_Move (el, (x, (b, ())))) F m) (hm : Sm m) (m4 : Mk) (c : Int) : ∀ (k i : Nat), m.2.2.1.length < k + i → i ≤ m.2.2.1.length →
    marks_Move.p1 fuel k el (m.2.2.1.length : Int) (i : Int) m4 (c, (m.2.1, (stp (F · false) m.2.2.1 i, m.2.2.2))) = some ((c, (m.2.1, (m.2.2.1.map (F · false), m.2.2.2.map (mvS F)))), ())
  | 0, i, h, hi => by omega
  | k + 1, i, h, hi => by
    have step : marks_Move.p1 fuel (k + 1) el (m.2.2.1.length : Int) (i : Int) m4 (c, (m.2.1, (stp (F · false) m.2.2.1 i, m.2.2.2))) = marks_Move.t1 (marks_Move.p1 fuel k) (marks_Move.p2 fuel) el (m.2.2.1.length : Int) (i : Int) m4 (c, (m.2.1, (stp (F · false) m.2.2.1 i, m.2.2.2))) := rfl
    rw [step]
    have h60 := hm.2.1
    have h61 := hm.2.2
    simp only [marks_Move.t1, iteB_dec]
    by_cases h1 : i < m.2.2.1.length
    · have hl : i < (stp (F · false) m.2.2.1 i).length := by rw [stp_len]; exact h1
      have s1 : s_edit_Move (el, (m.2.2.1[i], (false, ()))) = some (F m.2.2.1[i] false, ()) := M.p _ (get_mem h1)
      have wi : w64 ((i : Int) + 1) = ((i + 1 : Nat) : Int) := w64_id (by omega) (by omega)
      rw [if_pos (by omega), withinR_nat hl, stp_get _ _ _ _ h1, s1, bindR_val, withinR_nat hl, wi]
      have e : List.set (stp (F · false) m.2.2.1 i) i (F m.2.2.1[i] false) = stp (F · false) m.2.2.1 (i + 1) := stp_set (F · false) m.2.2.1 i h1
      rw [e]
      exact move_p1 el M hm m4 c k (i + 1) (by omega) (by omega)
    · rw [if_neg (by omega), stp_all _ _ _ (by omega)]
      show marks_Move.p3 fuel fuel el (m.2.2.2.length : Int) ((0 : Nat) : Int) m4 (c, (m.2.1, (m.2.2.1.map (F · false), m.2.2.2))) = _
      have := move_p3 el M hm m4 c (m.2.2.1.map (F · false)) fuel 0 (by have := fuel_gt m.2.2.2.length (by omega); omega) (by omega)
      rw [stp_zero] at this
      exact this
theorem moveM_eq (el : List EdI) {F : Int → Bool → Int} {m : Mk} (M : MvOk (fun x b => s_edit_Move (el, (x, (b, ())))) F m) (hm : Sm m) : s_marks_Move (m, (el, ())) = some (mvM F m, ()) := by
  have st : s_marks_Move (m, (el, ())) = marks_Move.t0 (marks_Move.p1 fuel fuel) m el := rfl
  rw [st]
  have h60 := hm.2.1
  have hc : s_edit_Move (el, (m.1, (true, ()))) = some (F m.1 true, ()) := M.c
  simp only [marks_Move.t0, of_eq m hm, bindR_val, hc]
  have := move_p1 el M hm ((0 : Int), (([] : List (List UInt8)), (([] : List (Int)), ([] : List ((Int) × (Int)))))) (F m.1 true) fuel 0 (by have := fuel_gt m.2.2.1.length (by omega); omega) (by omega)
  rw [stp_zero] at this
  exact this

theorem takeSnoc {α : Type} (l : List α) (i : Nat) (h : i < l.length) : l.take i ++ [l[i]] = l.take (i + 1) := List.take_append_getElem h
theorem rmove_p5 (el : List EdI) {F : Int → Bool → Int} {m : Mk} (M : MvOk (fun x b => s_ref04_Move (el, (x, (b, ())))) F m) (hm : Sm m) (m4 : Mk) (c : Int) (ns : List (List UInt8)) (ps : List Int) : ∀ (k i : Nat), m.2.2.2.length < k + i → i ≤ m.2.2.2.length →
    ref25_Move.p5 fuel k el (i : Int) m m4 (c, (ns, (ps, (m.2.2.2.take i).map (mvS F)))) = some ((c, (ns, (ps, m.2.2.2.map (mvS F)))), ())
  | 0, i, h, hi => by omega
  | k + 1, i, h, hi => by
    have step : ref25_Move.p5 fuel (k + 1) el (i : Int) m m4 (c, (ns, (ps, (m.2.2.2.take i).map (mvS F)))) = ref25_Move.t5 (ref25_Move.p6 fuel (ref25_Move.p5 fuel k)) (ref25_Move.p7 fuel) el (i : Int) m m4 (c, (ns, (ps, (m.2.2.2.take i).map (mvS F)))) := rfl
    rw [step]
    have h60 := hm.2.2
    simp only [ref25_Move.t5, iteB_dec]
    by_cases h1 : i < m.2.2.2.length
    · obtain ⟨s1, s2⟩ := M.s _ (get_mem h1)
      have s1 : s_ref04_Move (el, (m.2.2.2[i].1, (true, ()))) = some (F m.2.2.2[i].1 true, ()) := s1
      have s2 : s_ref04_Move (el, (m.2.2.2[i].2, (false, ()))) = some (F m.2.2.2[i].2 false, ()) := s2
      have wi : w64 ((i : Int) + 1) = ((i + 1 : Nat) : Int) := w64_id (by omega) (by omega)
      have hg : m.2.2.2.getD i ((0 : Int), (0 : Int)) = m.2.2.2[i] := by simp [h1]
      have p6e : ∀ q, q = mvS F m.2.2.2[i] → ref25_Move.p6 fuel (ref25_Move.p5 fuel k) el (i : Int) m m4 (c, (ns, (ps, (m.2.2.2.take i).map (mvS F)))) q = some ((c, (ns, (ps, m.2.2.2.map (mvS F)))), ()) := fun q hq => by
        show mustR (room ((m.2.2.2.take i).map (mvS F)) ([q] : List (Int × Int))) (ref25_Move.p5 fuel k el (w64 ((i : Int) + 1)) m m4 (c, (ns, (ps, (m.2.2.2.take i).map (mvS F) ++ [q])))) = _
        rw [room_ok (by simp; omega), wi, mustR_true, hq, show (m.2.2.2.take i).map (mvS F) ++ [mvS F m.2.2.2[i]] = (m.2.2.2.take i ++ [m.2.2.2[i]]).map (mvS F) by rw [List.map_append]; rfl, takeSnoc _ _ h1]
        exact rmove_p5 el M hm m4 c ns ps k (i + 1) (by omega) (by omega)
      rw [if_pos (by omega), withinR_nat h1, withinR_nat h1, hg]
      simp only [s1, s2, bindR_val, meetK_self]
      by_cases h2 : F m.2.2.2[i].2 false < F m.2.2.2[i].1 true
      · rw [if_pos h2]; exact p6e _ (by unfold mvS; rw [Int.max_eq_left (by omega)])
      · rw [if_neg h2]; exact p6e _ (by unfold mvS; rw [Int.max_eq_right (by omega)])
    · rw [if_neg (by omega), List.take_of_length_le (by omega)]; rfl
theorem rmove_p3 (el : List EdI) {F : Int → Bool → Int} {m : Mk} (M : MvOk (fun x b => s_ref04_Move (el, (x, (b, ())))) F m) (hm : Sm m) (m4 : Mk) (c : Int) (ns : List (List UInt8)) : ∀ (k i : Nat), m.2.2.1.length < k + i → i ≤ m.2.2.1.length →
    ref25_Move.p3 fuel k el (i : Int) m m4 (c, (ns, ((m.2.2.1.take i).map (F · false), []))) = some ((c, (ns, (m.2.2.1.map (F · false), m.2.2.2.map (mvS F)))), ())
  | 0, i, h, hi => by omega
  | k + 1, i, h, hi => by
    have step : ref25_Move.p3 fuel (k + 1) el (i : Int) m m4 (c, (ns, ((m.2.2.1.take i).map (F · false), []))) = ref25_Move.t3 (ref25_Move.p3 fuel k) (ref25_Move.p4 fuel) el (i : Int) m m4 (c, (ns, ((m.2.2.1.take i).map (F · false), []))) := rfl
    rw [step]
    have h60 := hm.2.1
    have h61 := hm.2.2
    simp only [ref25_Move.t3, iteB_dec]
    by_cases h1 : i < m.2.2.1.length
    · have s1 : s_ref04_Move (el, (m.2.2.1[i], (false, ()))) = some (F m.2.2.1[i] false, ()) := M.p _ (get_mem h1)
      have wi : w64 ((i : Int) + 1) = ((i + 1 : Nat) : Int) := w64_id (by omega) (by omega)
      have hg : m.2.2.1.getD i (0 : Int) = m.2.2.1[i] := by simp [h1]
      rw [if_pos (by omega), withinR_nat h1, hg, s1, bindR_val, room_ok (by simp; omega), wi, mustR_true]
      have e : (m.2.2.1.take i).map (F · false) ++ [F m.2.2.1[i] false] = (m.2.2.1.take (i + 1)).map (F · false) := by rw [← takeSnoc _ _ h1, List.map_append]; rfl
      rw [e]
      exact rmove_p3 el M hm m4 c ns k (i + 1) (by omega) (by omega)
    · rw [if_neg (by omega), List.take_of_length_le (by omega)]
      exact rmove_p5 el M hm m4 c ns (m.2.2.1.map (F · false)) fuel 0 (by have := fuel_gt m.2.2.2.length (by omega); omega) (by omega)
theorem rmove_p1 (el : List EdI) {F : Int → Bool → Int} {m : Mk} (M : MvOk (fun x b => s_ref04_Move (el, (x, (b, ())))) F m) (hm : Sm m) (m4 : Mk) (c : Int) : ∀ (k i : Nat), m.2.1.length < k + i → i ≤ m.2.1.length →
    ref25_Move.p1 fuel k el (i : Int) m m4 (c, (m.2.1.take i, ([], []))) = some ((c, (m.2.1, (m.2.2.1.map (F · false), m.2.2.2.map (mvS F)))), ())
  | 0, i, h, hi => by omega
  | k + 1, i, h, hi => by
    have step : ref25_Move.p1 fuel (k + 1) el (i : Int) m m4 (c, (m.2.1.take i, ([], []))) = ref25_Move.t1 (ref25_Move.p1 fuel k) (ref25_Move.p2 fuel) el (i : Int) m m4 (c, (m.2.1.take i, ([], []))) := rfl
    rw [step]
    have h60 := hm.1
    have h61 := hm.2.1
    simp only [ref25_Move.t1, iteB_dec]
    by_cases h1 : i < m.2.1.length
    · have wi : w64 ((i : Int) + 1) = ((i + 1 : Nat) : Int) := w64_id (by omega) (by omega)
      have hg : m.2.1.getD i ([] : List UInt8) = m.2.1[i] := by simp [h1]
      rw [if_pos (by omega), withinR_nat h1, hg, room_ok (by simp; omega), wi, mustR_true, takeSnoc _ _ h1]
      exact rmove_p1 el M hm m4 c k (i + 1) (by omega) (by omega)
    · rw [if_neg (by omega), List.take_of_length_le (by omega)]
      exact rmove_p3 el M hm m4 c m.2.1 fuel 0 (by have := fuel_gt m.2.2.1.length (by omega); omega) (by omega)
theorem rmoveM_eq (el : List EdI) {F : Int → Bool → Int} {m : Mk} (M : MvOk (fun x b => s_ref04_Move (el, (x, (b, ())))) F m) (hm : Sm m) : s_ref25_Move (m, (el, ())) = some (mvM F m, ()) := by
  have st : s_ref25_Move (m, (el, ())) = ref25_Move.t0 (ref25_Move.p1 fuel fuel) m el := rfl
  rw [st]
  have h60 := hm.1
  have hc : s_ref04_Move (el, (m.1, (true, ()))) = some (F m.1 true, ()) := M.c
  simp only [ref25_Move.t0, bindR_val, hc]
  exact rmove_p1 el M hm ((0 : Int), (([] : List (List UInt8)), (([] : List (Int)), ([] : List ((Int) × (Int)))))) (F m.1 true) fuel 0 (by have := fuel_gt m.2.1.length (by omega); omega) (by omega)

theorem drop_eq {α : Type} {a b : List α} {i : Nat} (h : a.length = b.length) (hi : i < a.length) : a.drop i = b.drop i ↔ a[i] = b[i]'(by omega) ∧ a.drop (i + 1) = b.drop (i + 1) := by
  rw [List.drop_eq_getElem_cons hi, List.drop_eq_getElem_cons (show i < b.length by omega), List.cons.injEq]
theorem same_p7 (a b : Mk) (h : a.2.2.2.length = b.2.2.2.length) (hb : a.2.2.2.length ≤ 1000000) : ∀ (k i : Nat), a.2.2.2.length < k + i → i ≤ a.2.2.2.length → ref25_Same.p7 fuel k (i : Int) a b = some (decide (a.2.2.2.drop i = b.2.2.2.drop i), ())
  | 0, i, hk, hi => by omega
  | k + 1, i, hk, hi => by
    have step : ref25_Same.p7 fuel (k + 1) (i : Int) a b = ref25_Same.t7 (ref25_Same.p7 fuel k) (ref25_Same.p8 fuel) (i : Int) a b := rfl
    rw [step]
    simp only [ref25_Same.t7, iteB_dec]
    by_cases h1 : i < a.2.2.2.length
    · have wi : w64 ((i : Int) + 1) = ((i + 1 : Nat) : Int) := w64_id (by omega) (by omega)
      have hg : a.2.2.2.getD i ((0 : Int), (0 : Int)) = a.2.2.2[i] := by simp [h1]
      have hg2 : b.2.2.2.getD i ((0 : Int), (0 : Int)) = b.2.2.2[i]'(by omega) := by simp [show i < b.2.2.2.length by omega]
      rw [if_pos (by omega), withinR_nat h1, withinR_nat (show i < b.2.2.2.length by omega), hg, hg2, wi, same_p7 a b h hb k (i + 1) (by omega) (by omega)]
      have e := drop_eq h h1
      by_cases q : a.2.2.2[i] = b.2.2.2[i]'(by omega)
      · rw [q, decide_eq_true rfl, decide_eq_true rfl]
        simp only [Bool.and_self, Bool.not_true, iteB_false]
        congr 2
        by_cases q2 : a.2.2.2.drop (i + 1) = b.2.2.2.drop (i + 1)
        · rw [decide_eq_true q2, decide_eq_true (e.2 ⟨q, q2⟩)]
        · rw [decide_eq_false q2, decide_eq_false (fun h => q2 (e.1 h).2)]
      · rw [decide_eq_false (fun h => q (e.1 h).1)]
        have : (decide ((a.2.2.2[i]).1 = (b.2.2.2[i]'(by omega)).1) && decide ((a.2.2.2[i]).2 = (b.2.2.2[i]'(by omega)).2)) = false := by
          rw [Bool.and_eq_false_iff]
          by_cases q1 : (a.2.2.2[i]).1 = (b.2.2.2[i]'(by omega)).1
          · right; exact decide_eq_false (fun q2 => q (Prod.ext q1 q2))
          · left; exact decide_eq_false q1
        rw [this]; rfl
    · rw [if_neg (by omega), List.drop_of_length_le (by omega), List.drop_of_length_le (by omega)]; rfl
theorem same_p5 (a b : Mk) (h : a.2.2.1.length = b.2.2.1.length) (hb : a.2.2.1.length ≤ 1000000) (h' : a.2.2.2.length = b.2.2.2.length) (hb' : a.2.2.2.length ≤ 1000000) : ∀ (k i : Nat), a.2.2.1.length < k + i → i ≤ a.2.2.1.length →
    ref25_Same.p5 fuel k (i : Int) a b = some (decide (a.2.2.1.drop i = b.2.2.1.drop i) && decide (a.2.2.2 = b.2.2.2), ())
  | 0, i, hk, hi => by omega
  | k + 1, i, hk, hi => by
    have step : ref25_Same.p5 fuel (k + 1) (i : Int) a b = ref25_Same.t5 (ref25_Same.p5 fuel k) (ref25_Same.p6 fuel) (i : Int) a b := rfl
    rw [step]
    simp only [ref25_Same.t5, iteB_dec]
    by_cases h1 : i < a.2.2.1.length
    · have wi : w64 ((i : Int) + 1) = ((i + 1 : Nat) : Int) := w64_id (by omega) (by omega)
      have hg : a.2.2.1.getD i (0 : Int) = a.2.2.1[i] := by simp [h1]
      have hg2 : b.2.2.1.getD i (0 : Int) = b.2.2.1[i]'(by omega) := by simp [show i < b.2.2.1.length by omega]
      rw [if_pos (by omega), withinR_nat h1, withinR_nat (show i < b.2.2.1.length by omega), hg, hg2, wi, same_p5 a b h hb h' hb' k (i + 1) (by omega) (by omega)]
      have e := drop_eq h h1
      by_cases q : a.2.2.1[i] = b.2.2.1[i]'(by omega)
      · rw [decide_eq_true q, Bool.not_true, iteB_false]
        congr 3
        by_cases q2 : a.2.2.1.drop (i + 1) = b.2.2.1.drop (i + 1)
        · rw [decide_eq_true q2, decide_eq_true (e.2 ⟨q, q2⟩)]
        · rw [decide_eq_false q2, decide_eq_false (fun h => q2 (e.1 h).2)]
      · rw [decide_eq_false q, decide_eq_false (fun h => q (e.1 h).1)]; rfl
    · rw [if_neg (by omega), List.drop_of_length_le (by omega), List.drop_of_length_le (by omega), decide_eq_true rfl, Bool.true_and]
      exact same_p7 a b h' hb' fuel 0 (by have := fuel_gt a.2.2.2.length (by omega); omega) (by omega)
theorem same_p3 (a b : Mk) (h0 : a.2.1.length = b.2.1.length) (hb0 : a.2.1.length ≤ 1000000) (h : a.2.2.1.length = b.2.2.1.length) (hb : a.2.2.1.length ≤ 1000000) (h' : a.2.2.2.length = b.2.2.2.length) (hb' : a.2.2.2.length ≤ 1000000) : ∀ (k i : Nat), a.2.1.length < k + i → i ≤ a.2.1.length →
    ref25_Same.p3 fuel k (i : Int) a b = some (decide (a.2.1.drop i = b.2.1.drop i) && (decide (a.2.2.1 = b.2.2.1) && decide (a.2.2.2 = b.2.2.2)), ())
  | 0, i, hk, hi => by omega
  | k + 1, i, hk, hi => by
    have step : ref25_Same.p3 fuel (k + 1) (i : Int) a b = ref25_Same.t3 (ref25_Same.p3 fuel k) (ref25_Same.p4 fuel) (i : Int) a b := rfl
    rw [step]
    simp only [ref25_Same.t3, iteB_dec]
    by_cases h1 : i < a.2.1.length
    · have wi : w64 ((i : Int) + 1) = ((i + 1 : Nat) : Int) := w64_id (by omega) (by omega)
      have hg : a.2.1.getD i ([] : List UInt8) = a.2.1[i] := by simp [h1]
      have hg2 : b.2.1.getD i ([] : List UInt8) = b.2.1[i]'(by omega) := by simp [show i < b.2.1.length by omega]
      rw [if_pos (by omega), withinR_nat h1, withinR_nat (show i < b.2.1.length by omega), hg, hg2, wi, same_p3 a b h0 hb0 h hb h' hb' k (i + 1) (by omega) (by omega)]
      have e := drop_eq h0 h1
      by_cases q : a.2.1[i] = b.2.1[i]'(by omega)
      · rw [decide_eq_true q, Bool.not_true, iteB_false]
        congr 3
        by_cases q2 : a.2.1.drop (i + 1) = b.2.1.drop (i + 1)
        · rw [decide_eq_true q2, decide_eq_true (e.2 ⟨q, q2⟩)]
        · rw [decide_eq_false q2, decide_eq_false (fun h => q2 (e.1 h).2)]
      · rw [decide_eq_false q, decide_eq_false (fun h => q (e.1 h).1)]; rfl
    · rw [if_neg (by omega), List.drop_of_length_le (by omega), List.drop_of_length_le (by omega), decide_eq_true rfl, Bool.true_and]
      exact same_p5 a b h hb h' hb' fuel 0 (by have := fuel_gt a.2.2.1.length (by omega); omega) (by omega)
def Sz (m : Mk) : Prop := m.2.1.length ≤ 1000000 ∧ m.2.2.1.length ≤ 1000000 ∧ m.2.2.2.length ≤ 1000000
theorem sameM_eq (a b : Mk) (ha : Sz a) : s_ref25_Same (a, (b, ())) = some (decide (a = b), ()) := by
  have st : s_ref25_Same (a, (b, ())) = ref25_Same.t0 (ref25_Same.p1 fuel) a b := rfl
  rw [st]
  have ft : ref25_Same.p1 fuel true a b = some (false, ()) := rfl
  have no : a ≠ b → some (false, ()) = some (decide (a = b), ()) := fun h => by rw [decide_eq_false h]
  simp only [ref25_Same.t0]
  by_cases c1 : a.1 = b.1
  · rw [decide_eq_true c1, Bool.not_true, iteB_false]
    by_cases c2 : a.2.1.length = b.2.1.length
    · rw [decide_eq_true (by omega), Bool.not_true, iteB_false]
      by_cases c3 : a.2.2.1.length = b.2.2.1.length
      · rw [decide_eq_true (by omega), Bool.not_true, iteB_false]
        by_cases c4 : a.2.2.2.length = b.2.2.2.length
        · rw [decide_eq_true (by omega), Bool.not_true]
          show ref25_Same.p3 fuel fuel ((0 : Nat) : Int) a b = _
          rw [same_p3 a b c2 ha.1 c3 ha.2.1 c4 ha.2.2 fuel 0 (by have := ha.1; have := fuel_gt a.2.1.length (by omega); omega) (by omega), List.drop_zero, List.drop_zero]
          congr 2
          by_cases e : a = b
          · subst e; simp
          · rw [decide_eq_false e]
            by_cases q1 : a.2.1 = b.2.1
            · by_cases q2 : a.2.2.1 = b.2.2.1
              · have q3 : a.2.2.2 ≠ b.2.2.2 := fun q3 => e (Prod.ext c1 (Prod.ext q1 (Prod.ext q2 q3)))
                rw [decide_eq_false q3]; simp
              · rw [decide_eq_false q2]; simp
            · rw [decide_eq_false q1]; rfl
        · rw [decide_eq_false (by omega), Bool.not_false, ft]; exact no (fun h => c4 (by rw [h]))
      · rw [decide_eq_false (by omega), Bool.not_false, iteB_true, ft]; exact no (fun h => c3 (by rw [h]))
    · rw [decide_eq_false (by omega), Bool.not_false, iteB_true, ft]; exact no (fun h => c2 (by rw [h]))
  · rw [decide_eq_false c1, Bool.not_false, iteB_true, ft]; exact no (fun h => c1 (by rw [h]))
end Go.Proofs.Ytdifekkamjoepaa.Vm.Rp
namespace Go.Proofs.Ytdifekkamjoepaa.Vm.Rp
open Go Go.Proofs.Ytdifekkamjoepaa.Vm
set_option linter.unusedVariables false
set_option maxRecDepth 100000

theorem bl_irr : ∀ (x : List UInt8), Op.bytesLess x x = false
  | [] => rfl
  | a :: x => by simp [Op.bytesLess, bl_irr x]
theorem bl_asym : ∀ (x y : List UInt8), Op.bytesLess x y = true → Op.bytesLess y x = false
  | [], [], h => by simp [Op.bytesLess] at h
  | [], b :: y, _ => rfl
  | a :: x, [], h => by simp [Op.bytesLess] at h
  | a :: x, b :: y, h => by
    simp only [Op.bytesLess, Bool.or_eq_true, decide_eq_true_eq, Bool.and_eq_true, beq_iff_eq, Bool.or_eq_false_iff, decide_eq_false_iff_not, Bool.and_eq_false_iff] at h ⊢
    rcases h with h | ⟨rfl, h⟩
    · have h' := UInt8.lt_iff_toNat_lt.1 h
      refine ⟨fun k => ?_, .inl ?_⟩
      · have := UInt8.lt_iff_toNat_lt.1 k; omega
      · have : b ≠ a := fun e => by subst e; omega
        simpa using this
    · exact ⟨UInt8.lt_irrefl a, .inr (bl_asym x y h)⟩
theorem bl_tri : ∀ (x y : List UInt8), Op.bytesLess x y = false → Op.bytesLess y x = false → x = y
  | [], [], _, _ => rfl
  | [], b :: y, h, _ => by simp [Op.bytesLess] at h
  | a :: x, [], _, h => by simp [Op.bytesLess] at h
  | a :: x, b :: y, h, k => by
    simp only [Op.bytesLess, Bool.or_eq_false_iff, decide_eq_false_iff_not, Bool.and_eq_false_iff] at h k
    have e : a = b := by
      have h1 : ¬ a.toNat < b.toNat := fun q => h.1 (UInt8.lt_iff_toNat_lt.2 q)
      have k1 : ¬ b.toNat < a.toNat := fun q => k.1 (UInt8.lt_iff_toNat_lt.2 q)
      exact UInt8.toNat_inj.1 (by omega)
    subst e
    rw [bl_tri x y (h.2.resolve_left (by simp)) (k.2.resolve_left (by simp))]
theorem bl_trans : ∀ (x y z : List UInt8), Op.bytesLess x y = true → Op.bytesLess y z = true → Op.bytesLess x z = true
  | x, [], z, h, _ => by cases x <;> simp [Op.bytesLess] at h
  | x, b :: y, [], _, h => by simp [Op.bytesLess] at h
  | [], b :: y, c :: z, _, _ => rfl
  | a :: x, b :: y, c :: z, h, k => by
    simp only [Op.bytesLess, Bool.or_eq_true, decide_eq_true_eq, Bool.and_eq_true, beq_iff_eq] at h k ⊢
    rcases h with h | ⟨rfl, h⟩
    · rcases k with k | ⟨rfl, k⟩
      · left
        have := UInt8.lt_iff_toNat_lt.1 h
        have := UInt8.lt_iff_toNat_lt.1 k
        exact UInt8.lt_iff_toNat_lt.2 (by omega)
      · exact .inl h
    · rcases k with k | ⟨rfl, k⟩
      · exact .inl k
      · exact .inr ⟨rfl, bl_trans x y z h k⟩
theorem bl_le (x y : List UInt8) : (Op.bytesLess x y || decide (x = y)) = !Op.bytesLess y x := by
  cases h : Op.bytesLess x y
  · by_cases e : x = y
    · subst e; rw [bl_irr]; simp
    · cases k : Op.bytesLess y x
      · exact absurd (bl_tri x y h k) e
      · simp [e]
  · rw [bl_asym x y h]; rfl

def nmOk (m : Mk) (n : Int) (i : Nat) : Bool :=
  decide (1 ≤ (m.2.1.getD i []).length ∧ (m.2.1.getD i []).length ≤ 16) && ((decide (i = 0) || Op.bytesLess (m.2.1.getD (i - 1) []) (m.2.1.getD i [])) && decide (0 ≤ m.2.2.1.getD i (0 : Int) ∧ m.2.2.1.getD i (0 : Int) ≤ n))
def spOk (n : Int) (s : Int × Int) : Bool := decide (0 ≤ s.1 ∧ s.1 ≤ s.2 ∧ s.2 ≤ n)
def rgH (m : Mk) (n : Int) : Bool := decide (0 ≤ m.1 ∧ m.1 ≤ n ∧ m.2.1.length = m.2.2.1.length ∧ m.2.1.length ≤ 32 ∧ m.2.2.2.length ≤ 32)
def rgN (m : Mk) (n : Int) (i : Nat) : Bool := (List.range' i (m.2.1.length - i)).all (nmOk m n)
def rgt (m : Mk) (n : Int) : Bool := rgH m n && (rgN m n 0 && m.2.2.2.all (spOk n))
theorem rgN_step (m : Mk) (n : Int) (i : Nat) (h : i < m.2.1.length) : rgN m n i = (nmOk m n i && rgN m n (i + 1)) := by
  unfold rgN
  rw [show m.2.1.length - i = (m.2.1.length - (i + 1)) + 1 by omega, List.range'_succ, List.all_cons]
theorem rgN_end (m : Mk) (n : Int) (i : Nat) (h : m.2.1.length ≤ i) : rgN m n i = true := by
  unfold rgN
  rw [show m.2.1.length - i = 0 by omega]; rfl

theorem rright_p7 (m : Mk) (n : Int) (hs : m.2.2.2.length ≤ 1000000) : ∀ (k i : Nat), m.2.2.2.length < k + i → i ≤ m.2.2.2.length → ref25_Right.p7 fuel k n (i : Int) m = some ((m.2.2.2.drop i).all (spOk n), ())
  | 0, i, hk, hi => by omega
  | k + 1, i, hk, hi => by
    have step : ref25_Right.p7 fuel (k + 1) n (i : Int) m = ref25_Right.t7 (ref25_Right.p8 fuel (ref25_Right.p7 fuel k)) (ref25_Right.p9 fuel) n (i : Int) m := rfl
    rw [step]
    have p8t : ref25_Right.p8 fuel (ref25_Right.p7 fuel k) n (i : Int) true m = some (false, ()) := rfl
    simp only [ref25_Right.t7, iteB_dec]
    by_cases h1 : i < m.2.2.2.length
    · have wi : w64 ((i : Int) + 1) = ((i + 1 : Nat) : Int) := w64_id (by omega) (by omega)
      have hg : m.2.2.2.getD i ((0 : Int), (0 : Int)) = m.2.2.2[i] := by simp [h1]
      have p8f : ref25_Right.p8 fuel (ref25_Right.p7 fuel k) n (i : Int) false m = some ((m.2.2.2.drop (i + 1)).all (spOk n), ()) := by
        show ref25_Right.p7 fuel k n (w64 ((i : Int) + 1)) m = _
        rw [wi]; exact rright_p7 m n hs k (i + 1) (by omega) (by omega)
      rw [if_pos (by omega), withinR_nat h1, hg]
      simp only [withinR_nat h1, hg]
      rw [List.drop_eq_getElem_cons h1, List.all_cons]
      by_cases c1 : (m.2.2.2[i]).1 < 0
      · rw [if_pos c1, p8t, show spOk n m.2.2.2[i] = false from decide_eq_false (by omega), Bool.false_and]
      rw [if_neg c1]
      by_cases c2 : (m.2.2.2[i]).2 < (m.2.2.2[i]).1
      · rw [if_pos c2, p8t, show spOk n m.2.2.2[i] = false from decide_eq_false (by omega), Bool.false_and]
      rw [if_neg c2]
      by_cases c3 : n < (m.2.2.2[i]).2
      · rw [decide_eq_true c3, p8t, show spOk n m.2.2.2[i] = false from decide_eq_false (by omega), Bool.false_and]
      rw [decide_eq_false c3, p8f, show spOk n m.2.2.2[i] = true from decide_eq_true (by omega), Bool.true_and]
    · rw [if_neg (by omega), List.drop_of_length_le (by omega)]; rfl
theorem rright_p3 (m : Mk) (n : Int) (hl : m.2.1.length = m.2.2.1.length) (h32 : m.2.1.length ≤ 32) (hs : m.2.2.2.length ≤ 32) : ∀ (k i : Nat), m.2.1.length < k + i → i ≤ m.2.1.length → ref25_Right.p3 fuel k n (i : Int) m = some (rgN m n i && m.2.2.2.all (spOk n), ())
  | 0, i, hk, hi => by omega
  | k + 1, i, hk, hi => by
    have step : ref25_Right.p3 fuel (k + 1) n (i : Int) m = ref25_Right.t3 (ref25_Right.p4 fuel (ref25_Right.p3 fuel k)) (ref25_Right.p5 fuel) n (i : Int) m := rfl
    rw [step]
    have p4t : ref25_Right.p4 fuel (ref25_Right.p3 fuel k) n (i : Int) true m = some (false, ()) := rfl
    simp only [ref25_Right.t3, iteB_dec]
    by_cases h1 : i < m.2.1.length
    · have wi : w64 ((i : Int) + 1) = ((i + 1 : Nat) : Int) := w64_id (by omega) (by omega)
      have wp : w64 ((i : Int) - 1) = (i : Int) - 1 := w64_id (by omega) (by omega)
      have h2 : i < m.2.2.1.length := by omega
      have p4f : ref25_Right.p4 fuel (ref25_Right.p3 fuel k) n (i : Int) false m = some (rgN m n (i + 1) && m.2.2.2.all (spOk n), ()) := by
        show ref25_Right.p3 fuel k n (w64 ((i : Int) + 1)) m = _
        rw [wi]; exact rright_p3 m n hl h32 hs k (i + 1) (by omega) (by omega)
      have no : nmOk m n i = false → some (false, ()) = some (rgN m n i && m.2.2.2.all (spOk n), ()) := fun h => by
        rw [rgN_step m n i h1, h]; rfl
      rw [if_pos (by omega)]
      simp only [withinR_nat h1, withinR_nat h2, wp]
      by_cases c1 : ((m.2.1.getD i []).length : Int) < 1
      · rw [if_pos c1, p4t]; refine no ?_
        unfold nmOk; rw [decide_eq_false (by omega)]; rfl
      rw [if_neg c1]
      by_cases c2 : 16 < ((m.2.1.getD i []).length : Int)
      · rw [if_pos c2, p4t]; refine no ?_
        unfold nmOk; rw [decide_eq_false (by omega)]; rfl
      rw [if_neg c2]
      have hd : decide (1 ≤ (m.2.1.getD i []).length ∧ (m.2.1.getD i []).length ≤ 16) = true := decide_eq_true (by omega)
      have rest : (decide (i = 0) || Op.bytesLess (m.2.1.getD (i - 1) []) (m.2.1.getD i [])) = true →
          (if m.2.2.1.getD i 0 < 0 then ref25_Right.p4 fuel (ref25_Right.p3 fuel k) n (i : Int) true m else ref25_Right.p4 fuel (ref25_Right.p3 fuel k) n (i : Int) (decide (n < m.2.2.1.getD i 0)) m) = some (rgN m n i && m.2.2.2.all (spOk n), ()) := fun ho => by
        by_cases c4 : m.2.2.1.getD i 0 < 0
        · rw [if_pos c4, p4t]; refine no ?_
          unfold nmOk; rw [hd, ho, decide_eq_false (by omega)]; rfl
        rw [if_neg c4]
        by_cases c5 : n < m.2.2.1.getD i 0
        · rw [decide_eq_true c5, p4t]; refine no ?_
          unfold nmOk; rw [hd, ho, decide_eq_false (by omega)]; rfl
        · rw [decide_eq_false c5, p4f, rgN_step m n i h1]
          have : nmOk m n i = true := by unfold nmOk; rw [hd, ho, decide_eq_true (by omega)]; rfl
          rw [this, Bool.true_and]
      by_cases c3 : i = 0
      · rw [if_neg (by omega)]
        exact rest (by rw [decide_eq_true c3]; rfl)
      · rw [if_pos (by omega), show (i : Int) - 1 = ((i - 1 : Nat) : Int) by omega, withinR_nat (show i - 1 < m.2.1.length by omega), bl_le]
        cases hb : Op.bytesLess (m.2.1.getD (i - 1) []) (m.2.1.getD i [])
        · rw [Bool.not_false, iteB_true, p4t]; refine no ?_
          unfold nmOk; rw [hb, decide_eq_false c3]; simp
        · rw [Bool.not_true, iteB_false]
          exact rest (by rw [hb]; simp)
    · rw [if_neg (by omega), rgN_end m n i (by omega), Bool.true_and]
      have := rright_p7 m n (by omega) fuel 0 (by have := fuel_gt m.2.2.2.length (by omega); omega) (by omega)
      rw [List.drop_zero] at this
      exact this
theorem rright_eq (m : Mk) (n : Int) : s_ref25_Right (m, (n, ())) = some (rgt m n, ()) := by
  have st : s_ref25_Right (m, (n, ())) = ref25_Right.t0 (ref25_Right.p1 fuel) m n := rfl
  rw [st]
  have p1t : ref25_Right.p1 fuel n true m = some (false, ()) := rfl
  have no : rgH m n = false → some (false, ()) = some (rgt m n, ()) := fun h => by unfold rgt; rw [h]; rfl
  simp only [ref25_Right.t0, iteB_dec]
  by_cases c1 : m.1 < 0
  · rw [if_pos c1, p1t]; exact no (decide_eq_false (by omega))
  rw [if_neg c1]
  by_cases c2 : n < m.1
  · rw [if_pos c2, p1t]; exact no (decide_eq_false (by omega))
  rw [if_neg c2]
  by_cases c3 : m.2.1.length = m.2.2.1.length
  · rw [decide_eq_true (by omega), Bool.not_true, iteB_false]
    by_cases c4 : 32 < (m.2.1.length : Int)
    · rw [if_pos c4, p1t]; exact no (decide_eq_false (by omega))
    rw [if_neg c4]
    by_cases c5 : 32 < (m.2.2.2.length : Int)
    · rw [decide_eq_true c5, p1t]; exact no (decide_eq_false (by omega))
    rw [decide_eq_false c5]
    show ref25_Right.p3 fuel fuel n ((0 : Nat) : Int) m = _
    rw [rright_p3 m n c3 (by omega) (by omega) fuel 0 (by have := fuel_gt m.2.1.length (by omega); omega) (by omega)]
    unfold rgt
    rw [show rgH m n = true from decide_eq_true (by omega), Bool.true_and]
  · rw [decide_eq_false (by omega), Bool.not_false, iteB_true, p1t]; exact no (decide_eq_false (fun h => c3 h.2.2.1))

theorem isName_eq (x : List UInt8) : s_marks_isName (x, ()) = some (decide (1 ≤ x.length ∧ x.length ≤ 16), ()) := by
  show marks_isName.t0 x = _
  unfold marks_isName.t0
  cases x with
  | nil => rfl
  | cons a x =>
    rw [decide_eq_false (by simp), Bool.not_false, iteB_true]
    congr 2
    by_cases h : (a :: x).length ≤ 16
    · rw [decide_eq_true (by omega), decide_eq_true (by simp at h ⊢; omega)]
    · rw [decide_eq_false (by omega), decide_eq_false (by omega)]
theorem isSpan_eq (s : Int × Int) (n : Int) : s_marks_isSpan (s, (n, ())) = some (spOk n s, ()) := by
  show marks_isSpan.t0 s n = _
  unfold marks_isSpan.t0 spOk
  rw [iteB_dec, iteB_dec]
  by_cases c1 : 0 ≤ s.1
  · rw [if_pos c1]
    by_cases c2 : s.1 ≤ s.2
    · rw [if_pos c2]; congr 2
      by_cases c3 : s.2 ≤ n
      · rw [decide_eq_true c3, decide_eq_true ⟨c1, c2, c3⟩]
      · rw [decide_eq_false c3, decide_eq_false (fun h => c3 h.2.2)]
    · rw [if_neg c2, decide_eq_false (fun h => c2 h.2.1)]
  · rw [if_neg c1, decide_eq_false (fun h => c1 h.1)]
theorem idx_p1 (l : List (Int × Int)) (n : Int) (hs : l.length ≤ 1000000) : ∀ (k i : Nat), l.length < k + i → i ≤ l.length → ∃ j : Int, slices_IndexFunc_l78.p1 fuel k l (n, ()) (l.length : Int) (i : Int) = some (j, ()) ∧ (decide (0 ≤ j) = !(l.drop i).all (spOk n))
  | 0, i, hk, hi => by omega
  | k + 1, i, hk, hi => by
    have step : slices_IndexFunc_l78.p1 fuel (k + 1) l (n, ()) (l.length : Int) (i : Int) = slices_IndexFunc_l78.t1 (slices_IndexFunc_l78.p1 fuel k) (slices_IndexFunc_l78.p2 fuel) l (n, ()) (l.length : Int) (i : Int) := rfl
    rw [step]
    simp only [slices_IndexFunc_l78.t1, iteB_dec]
    by_cases h1 : i < l.length
    · have wi : w64 ((i : Int) + 1) = ((i + 1 : Nat) : Int) := w64_id (by omega) (by omega)
      have hg : l.getD i ((0 : Int), (0 : Int)) = l[i] := by simp [h1]
      have st2 : s_marks_Right_1 (l[i], (n, ())) = some (!spOk n l[i], ()) := by
        show marks_Right_1.t0 l[i] n = _
        unfold marks_Right_1.t0
        rw [isSpan_eq, bindR_val]; rfl
      rw [if_pos (by omega), withinR_nat h1, hg, st2, bindR_val, List.drop_eq_getElem_cons h1, List.all_cons]
      cases spOk n l[i]
      · exact ⟨i, rfl, by rw [decide_eq_true (by omega)]; rfl⟩
      · obtain ⟨j, e1, e2⟩ := idx_p1 l n hs k (i + 1) (by omega) (by omega)
        refine ⟨j, ?_, by rw [e2]; rfl⟩
        rw [Bool.not_true, iteB_false, wi]; exact e1
    · refine ⟨-1, by rw [if_neg (by omega)]; rfl, ?_⟩
      rw [List.drop_of_length_le (by omega)]; rfl
theorem contains_eq (l : List (Int × Int)) (n : Int) (hs : l.length ≤ 1000000) : s_slices_ContainsFunc_l78 (l, ((n, ()), ())) = some (!l.all (spOk n), ()) := by
  obtain ⟨j, e1, e2⟩ := idx_p1 l n hs fuel 0 (by have := fuel_gt l.length (by omega); omega) (by omega)
  have e1 : s_slices_IndexFunc_l78 (l, ((n, ()), ())) = some (j, ()) := e1
  show slices_ContainsFunc_l78.t0 l (n, ()) = _
  unfold slices_ContainsFunc_l78.t0
  rw [e1, bindR_val, e2, List.drop_zero]
theorem right_p3 (m : Mk) (n : Int) (hl : m.2.1.length = m.2.2.1.length) (h32 : m.2.1.length ≤ 32) (hs : m.2.2.2.length ≤ 32) : ∀ (k i : Nat), m.2.1.length < k + i → i ≤ m.2.1.length → marks_Right.p3 fuel k m.2.1 (m.2.1.length : Int) (i : Int) m n = some (rgN m n i && m.2.2.2.all (spOk n), ())
  | 0, i, hk, hi => by omega
  | k + 1, i, hk, hi => by
    have step : marks_Right.p3 fuel (k + 1) m.2.1 (m.2.1.length : Int) (i : Int) m n = marks_Right.t3 (marks_Right.p4 fuel (marks_Right.p3 fuel k)) (marks_Right.p5 fuel) m.2.1 (m.2.1.length : Int) (i : Int) m n := rfl
    rw [step]
    have p4t : marks_Right.p4 fuel (marks_Right.p3 fuel k) m.2.1 (m.2.1.length : Int) (i : Int) true m n = some (false, ()) := rfl
    simp only [marks_Right.t3, iteB_dec]
    by_cases h1 : i < m.2.1.length
    · have wi : w64 ((i : Int) + 1) = ((i + 1 : Nat) : Int) := w64_id (by omega) (by omega)
      have wp : w64 ((i : Int) - 1) = (i : Int) - 1 := w64_id (by omega) (by omega)
      have h2 : i < m.2.2.1.length := by omega
      have p4f : marks_Right.p4 fuel (marks_Right.p3 fuel k) m.2.1 (m.2.1.length : Int) (i : Int) false m n = some (rgN m n (i + 1) && m.2.2.2.all (spOk n), ()) := by
        show marks_Right.p3 fuel k m.2.1 (m.2.1.length : Int) (w64 ((i : Int) + 1)) m n = _
        rw [wi]; exact right_p3 m n hl h32 hs k (i + 1) (by omega) (by omega)
      have no : nmOk m n i = false → some (false, ()) = some (rgN m n i && m.2.2.2.all (spOk n), ()) := fun h => by
        rw [rgN_step m n i h1, h]; rfl
      rw [if_pos (by omega)]
      simp only [withinR_nat h1, withinR_nat h2, wp, isName_eq, bindR_val]
      by_cases c1 : 1 ≤ (m.2.1.getD i []).length ∧ (m.2.1.getD i []).length ≤ 16
      · have hd : decide (1 ≤ (m.2.1.getD i []).length ∧ (m.2.1.getD i []).length ≤ 16) = true := decide_eq_true c1
        rw [hd, notB_true, iteB_false]
        have rest : (decide (i = 0) || Op.bytesLess (m.2.1.getD (i - 1) []) (m.2.1.getD i [])) = true →
            (if m.2.2.1.getD i 0 < 0 then marks_Right.p4 fuel (marks_Right.p3 fuel k) m.2.1 (m.2.1.length : Int) (i : Int) true m n else marks_Right.p4 fuel (marks_Right.p3 fuel k) m.2.1 (m.2.1.length : Int) (i : Int) (decide (n < m.2.2.1.getD i 0)) m n) = some (rgN m n i && m.2.2.2.all (spOk n), ()) := fun ho => by
          by_cases c4 : m.2.2.1.getD i 0 < 0
          · rw [if_pos c4, p4t]; refine no ?_
            unfold nmOk; rw [hd, ho, decide_eq_false (by omega)]; rfl
          rw [if_neg c4]
          by_cases c5 : n < m.2.2.1.getD i 0
          · rw [decide_eq_true c5, p4t]; refine no ?_
            unfold nmOk; rw [hd, ho, decide_eq_false (by omega)]; rfl
          · rw [decide_eq_false c5, p4f, rgN_step m n i h1]
            have : nmOk m n i = true := by unfold nmOk; rw [hd, ho, decide_eq_true (by omega)]; rfl
            rw [this, Bool.true_and]
        by_cases c3 : i = 0
        · rw [if_neg (by omega)]
          exact rest (by rw [decide_eq_true c3]; rfl)
        · rw [if_pos (by omega), show (i : Int) - 1 = ((i - 1 : Nat) : Int) by omega, withinR_nat (show i - 1 < m.2.1.length by omega)]
          cases hb : Op.bytesLess (m.2.1.getD (i - 1) []) (m.2.1.getD i [])
          · rw [Bool.not_false, iteB_true, p4t]; refine no ?_
            unfold nmOk; rw [hb, decide_eq_false c3]; simp
          · rw [Bool.not_true, iteB_false]
            exact rest (by rw [hb]; simp)
      · rw [decide_eq_false c1, notB_false, iteB_true, p4t]; refine no ?_
        unfold nmOk; rw [decide_eq_false c1]; rfl
    · rw [if_neg (by omega), rgN_end m n i (by omega), Bool.true_and]
      show bindR (s_slices_ContainsFunc_l78 (m.2.2.2, ((n, ()), ()))) _ = _
      rw [contains_eq _ _ (by omega), bindR_val]
      cases m.2.2.2.all (spOk n) <;> rfl
theorem right_eq (m : Mk) (n : Int) : s_marks_Right (m, (n, ())) = some (rgt m n, ()) := by
  have st : s_marks_Right (m, (n, ())) = marks_Right.t0 (marks_Right.p1 fuel) m n := rfl
  rw [st]
  have p1t : marks_Right.p1 fuel true m n = some (false, ()) := rfl
  have no : rgH m n = false → some (false, ()) = some (rgt m n, ()) := fun h => by unfold rgt; rw [h]; rfl
  simp only [marks_Right.t0, iteB_dec]
  by_cases c1 : m.1 < 0
  · rw [if_pos c1, p1t]; exact no (decide_eq_false (by omega))
  rw [if_neg c1]
  by_cases c2 : n < m.1
  · rw [if_pos c2, p1t]; exact no (decide_eq_false (by omega))
  rw [if_neg c2]
  by_cases c3 : m.2.1.length = m.2.2.1.length
  · rw [decide_eq_true (by omega), Bool.not_true, iteB_false]
    by_cases c4 : 32 < (m.2.1.length : Int)
    · rw [if_pos c4, p1t]; exact no (decide_eq_false (by omega))
    rw [if_neg c4]
    by_cases c5 : 32 < (m.2.2.2.length : Int)
    · rw [decide_eq_true c5, p1t]; exact no (decide_eq_false (by omega))
    rw [decide_eq_false c5]
    show marks_Right.p3 fuel fuel m.2.1 (m.2.1.length : Int) ((0 : Nat) : Int) m n = _
    rw [right_p3 m n c3 (by omega) (by omega) fuel 0 (by have := fuel_gt m.2.1.length (by omega); omega) (by omega)]
    unfold rgt
    rw [show rgH m n = true from decide_eq_true (by omega), Bool.true_and]
  · rw [decide_eq_false (by omega), Bool.not_false, iteB_true, p1t]; exact no (decide_eq_false (fun h => c3 h.2.2.1))

theorem mgreat_p3 (m : Mk) (hm : m.2.1.length ≤ 60) : ∀ (k i : Nat), m.2.1.length < k + i → i ≤ m.2.1.length → ∃ b, law25_Great.p3 fuel k (i : Int) m = some (b, ())
  | 0, i, hk, hi => by omega
  | k + 1, i, hk, hi => by
    have step : law25_Great.p3 fuel (k + 1) (i : Int) m = law25_Great.t3 (law25_Great.p3 fuel k) (law25_Great.p4 fuel) (i : Int) m := rfl
    rw [step]
    simp only [law25_Great.t3, iteB_dec]
    by_cases h1 : i < m.2.1.length
    · have wi : w64 ((i : Int) + 1) = ((i + 1 : Nat) : Int) := w64_id (by omega) (by omega)
      rw [if_pos (by omega), withinR_nat h1, wi]
      by_cases c : (100 : Int) < ((m.2.1.getD i []).length : Int)
      · exact ⟨true, by rw [if_pos c]⟩
      · rw [if_neg c]; exact mgreat_p3 m hm k (i + 1) (by omega) (by omega)
    · exact ⟨false, by rw [if_neg (by omega)]; rfl⟩
theorem mGreat_eq (m : Mk) : ∃ b, s_law25_Great (m, ()) = some (b, ()) ∧ (b = false → Sm m) := by
  have st : s_law25_Great (m, ()) = law25_Great.t0 (law25_Great.p1 fuel) m := rfl
  rw [st]
  have p1t : law25_Great.p1 fuel true m = some (true, ()) := rfl
  simp only [law25_Great.t0, iteB_dec]
  by_cases c1 : 60 < (m.2.1.length : Int)
  · exact ⟨true, by rw [if_pos c1, p1t], fun h => by cases h⟩
  rw [if_neg c1]
  by_cases c2 : 60 < (m.2.2.1.length : Int)
  · exact ⟨true, by rw [if_pos c2, p1t], fun h => by cases h⟩
  rw [if_neg c2]
  by_cases c3 : 60 < (m.2.2.2.length : Int)
  · exact ⟨true, by rw [decide_eq_true c3, p1t], fun h => by cases h⟩
  rw [decide_eq_false c3]
  obtain ⟨b, h⟩ := mgreat_p3 m (by omega) fuel 0 (by have := fuel_gt m.2.1.length (by omega); omega) (by omega)
  exact ⟨b, h, fun _ => ⟨by omega, by omega, by omega⟩⟩
end Go.Proofs.Ytdifekkamjoepaa.Vm.Rp
namespace Go.Proofs.Ytdifekkamjoepaa.Vm.Rp
open Go Go.Proofs.Ytdifekkamjoepaa.Vm
set_option linter.unusedVariables false
set_option maxRecDepth 100000

abbrev nmg (l : List (List UInt8)) (i : Nat) : List UInt8 := l.getD i []
def Srt (l : List (List UInt8)) : Prop := ∀ i j, i < j → j < l.length → Op.bytesLess (nmg l i) (nmg l j) = true
/-- Where a name belongs. -/
structure AtP (l : List (List UInt8)) (x : List UInt8) (p : Nat) : Prop where
  le : p ≤ l.length
  lo : ∀ j, j < p → Op.bytesLess (nmg l j) x = true
  up : ∀ j, p ≤ j → j < l.length → Op.bytesLess (nmg l j) x = false
def fnd (l : List (List UInt8)) (x : List UInt8) (p : Nat) : Bool := decide (p < l.length ∧ nmg l p = x)
theorem half (a b : Nat) (ha : a ≤ 1000000) (hb : b ≤ 1000000) : w64 (shrI .u64 (IntKind.wrap .u64 (w64 ((a : Int) + (b : Int)))) (1 : Int)) = (((a + b) / 2 : Nat) : Int) := by
  rw [w64_id (n := (a : Int) + (b : Int)) (by omega) (by omega)]
  have e : IntKind.wrap .u64 ((a : Int) + (b : Int)) = (a : Int) + (b : Int) := by
    show Int.emod ((a : Int) + (b : Int)) 18446744073709551616 = _
    exact Int.emod_eq_of_lt (by omega) (by omega)
  rw [e]
  have e2 : shrI .u64 ((a : Int) + (b : Int)) (1 : Int) = (((a + b) / 2 : Nat) : Int) := by
    show ((a : Int) + (b : Int)).fdiv (2 ^ 1) = _
    rw [Int.fdiv_eq_ediv_of_nonneg _ (by omega)]
    omega
  rw [e2, w64_id (by omega) (by omega)]
theorem less_eq (x y : List UInt8) : s_cmp_Less (x, (y, ())) = some (Op.bytesLess x y, ()) := by
  have e : s_cmp_isNaN (x, ()) = some (!decide (x = x), ()) := rfl
  show cmp_Less.t0 x y = _
  unfold cmp_Less.t0
  rw [e, decide_eq_true rfl]; rfl
theorem bs_p2 (l : List (List UInt8)) (x : List UInt8) (p : Nat) (hp : p ≤ l.length) : slices_BinarySearch.p2 fuel l x (l.length : Int) (p : Int) = some (((p : Int), fnd l x p), ()) := by
  show slices_BinarySearch.t2 l x (l.length : Int) (p : Int) = _
  simp only [slices_BinarySearch.t2, iteB_dec]
  by_cases h1 : p < l.length
  · have e : s_slices_isNaN (l.getD p [], ()) = some (!decide (l.getD p [] = l.getD p []), ()) := rfl
    rw [if_pos (by omega), withinR_nat h1]
    by_cases h2 : l.getD p [] = x
    · rw [if_pos h2, show fnd l x p = true from decide_eq_true ⟨h1, h2⟩]
    · rw [if_neg h2, withinR_nat h1, e, decide_eq_true rfl, show fnd l x p = false from decide_eq_false (fun h => h2 h.2)]; rfl
  · rw [if_neg (by omega), show fnd l x p = false from decide_eq_false (fun h => h1 h.1)]
theorem bs_p1 (l : List (List UInt8)) (x : List UInt8) (hl : l.length ≤ 1000000) (S : Srt l) : ∀ (k lo hi : Nat), hi < k + lo → lo ≤ hi → hi ≤ l.length → (∀ j, j < lo → Op.bytesLess (nmg l j) x = true) → (∀ j, hi ≤ j → j < l.length → Op.bytesLess (nmg l j) x = false) →
    ∃ p, AtP l x p ∧ slices_BinarySearch.p1 fuel k l x (l.length : Int) (lo : Int) (hi : Int) = some (((p : Int), fnd l x p), ())
  | 0, lo, hi, hk, h1, h2, h3, h4 => by omega
  | k + 1, lo, hi, hk, h1, h2, h3, h4 => by
    have step : slices_BinarySearch.p1 fuel (k + 1) l x (l.length : Int) (lo : Int) (hi : Int) = slices_BinarySearch.t1 (slices_BinarySearch.p1 fuel k) (slices_BinarySearch.p2 fuel) l x (l.length : Int) (lo : Int) (hi : Int) := rfl
    rw [step]
    simp only [slices_BinarySearch.t1, iteB_dec, half lo hi (by omega) (by omega)]
    by_cases c : lo < hi
    · have hm : (lo + hi) / 2 < l.length := by omega
      have w1 : w64 ((((lo + hi) / 2 : Nat) : Int) + 1) = (((lo + hi) / 2 + 1 : Nat) : Int) := w64_id (by omega) (by omega)
      rw [if_pos (by omega), withinR_nat hm, less_eq, bindR_val]
      cases hb : Op.bytesLess (l.getD ((lo + hi) / 2) []) x
      · rw [iteB_false]
        refine bs_p1 l x hl S k lo ((lo + hi) / 2) (by omega) (by omega) (by omega) h3 (fun j hj hjl => ?_)
        by_cases e : j = (lo + hi) / 2
        · subst e; exact hb
        · cases hq : Op.bytesLess (nmg l j) x
          · rfl
          · have := bl_trans _ _ _ (S ((lo + hi) / 2) j (by omega) hjl) hq
            rw [show Op.bytesLess (nmg l ((lo + hi) / 2)) x = false from hb] at this; cases this
      · rw [iteB_true, w1]
        refine bs_p1 l x hl S k ((lo + hi) / 2 + 1) hi (by omega) (by omega) h2 (fun j hj => ?_) h4
        by_cases e : j = (lo + hi) / 2
        · subst e; exact hb
        · exact bl_trans _ _ _ (S j ((lo + hi) / 2) (by omega) hm) hb
    · have e : lo = hi := by omega
      subst e
      rw [if_neg (by omega)]
      exact ⟨lo, ⟨h2, h3, h4⟩, bs_p2 l x lo h2⟩
theorem bs_eq (l : List (List UInt8)) (x : List UInt8) (hl : l.length ≤ 1000) (S : Srt l) : ∃ p, AtP l x p ∧ s_slices_BinarySearch (l, (x, ())) = some (((p : Int), fnd l x p), ()) :=
  bs_p1 l x (by omega) S fuel 0 l.length (by have := fuel_gt l.length (by omega); omega) (by omega) (by omega) (fun j hj => by omega) (fun j h1 h2 => by omega)

def ins {α : Type} (l : List α) (p : Nat) (x : α) : List α := l.take p ++ x :: l.drop p
def put {α : Type} (l : List α) (p : Nat) (f : Bool) (x : α) : List α := l.take p ++ x :: l.drop (if f = true then p + 1 else p)
def setM (m : Mk) (x : List UInt8) (at_ : Int) (p : Nat) : Mk := (m.1, (put m.2.1 p (fnd m.2.1 x p) x, (put m.2.2.1 p (fnd m.2.1 x p) at_, m.2.2.2)))
theorem insS (l : List (List UInt8)) (p : Nat) (x : List UInt8) (hp : p ≤ l.length) (hl : l.length ≤ 1000000) : s_InsertS l ((p : Int), ()) [x] = some (ins l p x) := by
  rw [InsertS_is]
  show (match decide (0 ≤ (p : Int) ∧ (p : Int) ≤ (l.length : Int) ∧ l.length ≤ 1000000) with | true => some (l.take (p : Int).toNat ++ x :: l.drop (p : Int).toNat) | false => none) = _
  rw [decide_eq_true (by omega)]; rfl
theorem insI (l : List Int) (p : Nat) (x : Int) (hp : p ≤ l.length) (hl : l.length ≤ 1000000) : s_InsertI l ((p : Int), ()) [x] = some (ins l p x) := by
  rw [InsertI_is]
  show (match decide (0 ≤ (p : Int) ∧ (p : Int) ≤ (l.length : Int) ∧ l.length ≤ 1000000) with | true => some (l.take (p : Int).toNat ++ x :: l.drop (p : Int).toNat) | false => none) = _
  rw [decide_eq_true (by omega)]; rfl
theorem set_p3 (m m8 : Mk) (x : List UInt8) (at_ : Int) (p : Nat) (hm : Sm m) (hl : m.2.1.length = m.2.2.1.length) (hp : p ≤ m.2.1.length) : marks_Set.p3 fuel x at_ (p : Int) (fnd m.2.1 x p) m m8 = some ((setM m x at_ p, 0), ()) := by
  have h1 := hm.1
  have h2 := hm.2.1
  have e1 := insS m.2.1 p x hp (by omega)
  have e2 := insI m.2.2.1 p at_ (by omega) (by omega)
  show marks_Set.t3 x at_ (p : Int) (fnd m.2.1 x p) m m8 = _
  cases hf : fnd m.2.1 x p
  · simp only [marks_Set.t3, of_eq m hm, bindR_val, iteB_false, e1, e2, meetK_self]
    unfold setM
    rw [hf]; rfl
  · obtain ⟨h3, h4⟩ := of_decide_eq_true hf
    simp only [marks_Set.t3, of_eq m hm, bindR_val, iteB_true, withinR_nat (show p < m.2.2.1.length by omega)]
    unfold setM
    rw [hf]
    have q1 : put m.2.1 p true x = m.2.1 := by
      unfold put
      have : m.2.1[p] = x := by rw [← h4]; simp [nmg, h3]
      rw [if_pos rfl, ← this, ← List.drop_eq_getElem_cons h3, List.take_append_drop]
    have q2 : put m.2.2.1 p true at_ = m.2.2.1.set p at_ := by
      unfold put
      rw [if_pos rfl, List.set_eq_take_append_cons_drop, if_pos (by omega)]
    rw [q1, q2]
/-- What Set answers. -/
def setR (m : Mk) (x : List UInt8) (at_ n : Int) (p : Nat) : Mk × Int :=
  if ¬ (1 ≤ x.length ∧ x.length ≤ 16) then (mk0, 1) else if at_ < 0 ∨ n < at_ then (mk0, 3) else if fnd m.2.1 x p = false ∧ 32 ≤ m.2.1.length then (mk0, 13) else (setM m x at_ p, 0)
theorem set_eq (m : Mk) (x : List UInt8) (at_ n : Int) (p : Nat) (hm : Sm m) (hl : m.2.1.length = m.2.2.1.length) (A : AtP m.2.1 x p) (B : s_slices_BinarySearch (m.2.1, (x, ())) = some (((p : Int), fnd m.2.1 x p), ())) :
    s_marks_Set (m, (x, (at_, (n, ())))) = some (setR m x at_ n p, ()) := by
  have st : s_marks_Set (m, (x, (at_, (n, ())))) = marks_Set.t0 (marks_Set.p1 fuel) m x at_ n := rfl
  rw [st]
  have p1t : marks_Set.p1 fuel x at_ (p : Int) (fnd m.2.1 x p) true m mk0 = some ((mk0, 3), ()) := rfl
  have p1f : marks_Set.p1 fuel x at_ (p : Int) (fnd m.2.1 x p) false m mk0 = iteB (notB (fnd m.2.1 x p)) (marks_Set.p2 fuel x at_ (p : Int) (fnd m.2.1 x p) (decide ((32 : Int) ≤ ((List.length m.2.1 : Nat) : Int))) m mk0) (marks_Set.p2 fuel x at_ (p : Int) (fnd m.2.1 x p) false m mk0) := rfl
  have p2t : marks_Set.p2 fuel x at_ (p : Int) (fnd m.2.1 x p) true m mk0 = some ((mk0, 13), ()) := rfl
  have p2f : marks_Set.p2 fuel x at_ (p : Int) (fnd m.2.1 x p) false m mk0 = some ((setM m x at_ p, 0), ()) := set_p3 m mk0 x at_ p hm hl A.le
  have key : ∀ b : Bool, marks_Set.p1 fuel x at_ (p : Int) (fnd m.2.1 x p) b m mk0 = some (if b = true then (mk0, 3) else if fnd m.2.1 x p = false ∧ 32 ≤ m.2.1.length then (mk0, 13) else (setM m x at_ p, 0), ()) := fun b => by
    cases b
    · rw [p1f, if_neg (by decide)]
      cases hf : fnd m.2.1 x p
      · rw [notB_false, iteB_true]
        rw [hf] at p2t p2f
        by_cases c : 32 ≤ m.2.1.length
        · rw [decide_eq_true (by omega), p2t, if_pos ⟨rfl, c⟩]
        · rw [decide_eq_false (by omega), p2f, if_neg (fun h => c h.2)]
      · rw [notB_true, iteB_false]
        rw [hf] at p2f
        rw [p2f, if_neg (fun h => by cases h.1)]
    · rw [p1t, if_pos rfl]
  simp only [marks_Set.t0, B, isName_eq, bindR_val, iteB_dec]
  unfold setR
  by_cases c : 1 ≤ x.length ∧ x.length ≤ 16
  · rw [decide_eq_true c, notB_true, iteB_false, if_neg (c := ¬ (1 ≤ x.length ∧ x.length ≤ 16)) (fun h => h c)]
    by_cases c1 : at_ < 0
    · rw [if_pos c1]
      refine (key true).trans ?_
      rw [if_pos rfl, if_pos (.inl c1)]
    · rw [if_neg c1]
      refine (key (decide (n < at_))).trans ?_
      by_cases c2 : n < at_
      · rw [decide_eq_true c2, if_pos rfl, if_pos (.inr c2)]
      · rw [decide_eq_false c2, if_neg (by decide), if_neg (c := at_ < 0 ∨ n < at_) (by omega)]
  · rw [decide_eq_false c, notB_false, iteB_true, if_pos (c := ¬ (1 ≤ x.length ∧ x.length ≤ 16)) c]; rfl

theorem place_eq (m : Mk) (x : List UInt8) (p : Nat) (hl : m.2.1.length = m.2.2.1.length) (A : AtP m.2.1 x p) (B : s_slices_BinarySearch (m.2.1, (x, ())) = some (((p : Int), fnd m.2.1 x p), ())) :
    s_marks_Place (m, (x, ())) = some ((if fnd m.2.1 x p = true then m.2.2.1.getD p 0 else 0, fnd m.2.1 x p), ()) := by
  have st : s_marks_Place (m, (x, ())) = marks_Place.t0 (marks_Place.p1 fuel) m x := rfl
  rw [st]
  simp only [marks_Place.t0, B, bindR_val]
  cases hf : fnd m.2.1 x p
  · rw [notB_false, iteB_true]; rfl
  · obtain ⟨h3, h4⟩ := of_decide_eq_true hf
    rw [notB_true, iteB_false, decide_eq_false (by omega)]
    show marks_Place.t2 (p : Int) m = _
    simp only [marks_Place.t2, withinR_nat (show p < m.2.2.1.length by omega)]
    rfl
end Go.Proofs.Ytdifekkamjoepaa.Vm.Rp
namespace Go.Proofs.Ytdifekkamjoepaa.Vm.Rp
open Go Go.Proofs.Ytdifekkamjoepaa.Vm
set_option linter.unusedVariables false
set_option maxRecDepth 100000

structure Rt (m : Mk) (n : Int) : Prop where
  c0 : 0 ≤ m.1
  c1 : m.1 ≤ n
  len : m.2.1.length = m.2.2.1.length
  l32 : m.2.1.length ≤ 32
  s32 : m.2.2.2.length ≤ 32
  nm : ∀ i, i < m.2.1.length → 1 ≤ (nmg m.2.1 i).length ∧ (nmg m.2.1 i).length ≤ 16
  ord : ∀ i, 0 < i → i < m.2.1.length → Op.bytesLess (nmg m.2.1 (i - 1)) (nmg m.2.1 i) = true
  pl : ∀ i, i < m.2.1.length → 0 ≤ m.2.2.1.getD i (0 : Int) ∧ m.2.2.1.getD i (0 : Int) ≤ n
  sp : ∀ s ∈ m.2.2.2, 0 ≤ s.1 ∧ s.1 ≤ s.2 ∧ s.2 ≤ n
theorem rt_of (m : Mk) (n : Int) (h : rgt m n = true) : Rt m n := by
  unfold rgt at h
  simp only [Bool.and_eq_true] at h
  obtain ⟨h1, h2, h3⟩ := h
  have h1 := of_decide_eq_true h1
  unfold rgN at h2
  rw [List.all_eq_true] at h2 h3
  have g : ∀ i, i < m.2.1.length → nmOk m n i = true := fun i hi => h2 i (by rw [List.mem_range'_1]; omega)
  refine ⟨h1.1, h1.2.1, h1.2.2.1, h1.2.2.2.1, h1.2.2.2.2, fun i hi => ?_, fun i h0 hi => ?_, fun i hi => ?_, fun s hs => of_decide_eq_true (h3 s hs)⟩
  · have := g i hi
    unfold nmOk at this
    simp only [Bool.and_eq_true] at this
    exact of_decide_eq_true this.1
  · have := g i hi
    unfold nmOk at this
    simp only [Bool.and_eq_true] at this
    have := this.2.1
    rw [decide_eq_false (by omega), Bool.false_or] at this
    exact this
  · have := g i hi
    unfold nmOk at this
    simp only [Bool.and_eq_true] at this
    exact of_decide_eq_true this.2.2
theorem rt_to (m : Mk) (n : Int) (h : Rt m n) : rgt m n = true := by
  unfold rgt
  simp only [Bool.and_eq_true]
  refine ⟨decide_eq_true ⟨h.c0, h.c1, h.len, h.l32, h.s32⟩, ?_, ?_⟩
  · unfold rgN
    rw [List.all_eq_true]
    intro i hi
    have hi : i < m.2.1.length := by rw [List.mem_range'_1] at hi; omega
    unfold nmOk
    simp only [Bool.and_eq_true]
    refine ⟨decide_eq_true (h.nm i hi), ?_, decide_eq_true (h.pl i hi)⟩
    by_cases c : i = 0
    · rw [decide_eq_true c]; rfl
    · rw [decide_eq_false c, Bool.false_or]; exact h.ord i (by omega) hi
  · rw [List.all_eq_true]
    exact fun s hs => decide_eq_true (h.sp s hs)
theorem Rt.sm {m : Mk} {n : Int} (h : Rt m n) : Sm m := ⟨by have := h.l32; omega, by have := h.l32; have := h.len; omega, by have := h.s32; omega⟩
theorem Rt.mem {m : Mk} {n : Int} (h : Rt m n) : ∀ x ∈ m.2.2.1, 0 ≤ x ∧ x ≤ n := fun x hx => by
  obtain ⟨i, hi, rfl⟩ := List.mem_iff_getElem.1 hx
  have hi' : i < m.2.1.length := by have := h.len; omega
  have := h.pl i hi'
  rwa [show m.2.2.1.getD i (0 : Int) = m.2.2.1[i] by simp [hi]] at this

abbrev MV (l : List Ed) : Int → Bool → Int := fun x b => mv 0 x b x l
structure InB (m : Mk) (lo hi : Int) : Prop where
  c : lo ≤ m.1 ∧ m.1 ≤ hi
  p : ∀ x ∈ m.2.2.1, lo ≤ x ∧ x ≤ hi
  s : ∀ s ∈ m.2.2.2, (lo ≤ s.1 ∧ s.1 ≤ hi) ∧ lo ≤ s.2 ∧ s.2 ≤ hi
theorem Rt.inB {m : Mk} {n : Int} (h : Rt m n) : InB m 0 n := ⟨⟨h.c0, h.c1⟩, h.mem, fun s hs => by have := h.sp s hs; omega⟩
theorem mvOk (n : Nat) (hn : n ≤ 10000) (l : List Ed) (H : SmallN l) (hN : Num n 0 l) {m : Mk} (B : InB m (-1000000) 1000000) : MvOk (fun x b => s_edit_Move (l.map cE, (x, (b, ())))) (MV l) m :=
  ⟨Move_eq n hn l H hN _ _ B.c.1 B.c.2, fun x hx => Move_eq n hn l H hN _ _ (B.p x hx).1 (B.p x hx).2, fun s hs => ⟨Move_eq n hn l H hN _ _ (B.s s hs).1.1 (B.s s hs).1.2, Move_eq n hn l H hN _ _ (B.s s hs).2.1 (B.s s hs).2.2⟩⟩
theorem rmvOk (n : Nat) (hn : n ≤ 10000) (l : List Ed) (H : SmallN l) (hN : Num n 0 l) {m : Mk} (B : InB m (-1000000) 1000000) : MvOk (fun x b => s_ref04_Move (l.map cE, (x, (b, ())))) (MV l) m :=
  ⟨rMove_eq n hn l H hN _ _ B.c.1 B.c.2, fun x hx => rMove_eq n hn l H hN _ _ (B.p x hx).1 (B.p x hx).2, fun s hs => ⟨rMove_eq n hn l H hN _ _ (B.s s hs).1.1 (B.s s hs).1.2, rMove_eq n hn l H hN _ _ (B.s s hs).2.1 (B.s s hs).2.2⟩⟩
theorem InB.wide {m : Mk} {lo hi lo' hi' : Int} (B : InB m lo hi) (h1 : lo' ≤ lo) (h2 : hi ≤ hi') : InB m lo' hi' :=
  ⟨by have := B.c; omega, fun x hx => by have := B.p x hx; omega, fun s hs => by have := B.s s hs; omega⟩
theorem mv_in (n : Nat) (l : List Ed) (hN : Num n 0 l) (x : Int) (b : Bool) (h0 : 0 ≤ x) (h1 : x ≤ n) : 0 ≤ MV l x b ∧ MV l x b ≤ n + grow l := by
  have lo := mv_low b n 0 l 0 0 x x hN h0 (by omega)
  have up := mv_up b n x h1 l 0 0 x hN (by omega) (.inr (by omega))
  exact ⟨lo, by show mv 0 x b x l ≤ _; omega⟩
theorem rt_mv (n : Nat) (l : List Ed) (hN : Num n 0 l) {m : Mk} (R : Rt m n) : Rt (mvM (MV l) m) (n + grow l) := by
  have c := mv_in n l hN m.1 true R.c0 R.c1
  refine ⟨c.1, c.2, ?_, R.l32, ?_, R.nm, R.ord, fun i hi => ?_, fun s hs => ?_⟩
  · show m.2.1.length = (m.2.2.1.map _).length
    rw [List.length_map]; exact R.len
  · show (m.2.2.2.map _).length ≤ 32
    rw [List.length_map]; exact R.s32
  · have hi : i < m.2.1.length := hi
    have hi' : i < m.2.2.1.length := by have := R.len; omega
    show 0 ≤ (m.2.2.1.map (MV l · false)).getD i 0 ∧ (m.2.2.1.map (MV l · false)).getD i 0 ≤ _
    rw [show (m.2.2.1.map (MV l · false)).getD i 0 = MV l m.2.2.1[i] false by simp [hi']]
    have := R.mem _ (List.getElem_mem hi')
    exact mv_in n l hN _ _ this.1 this.2
  · obtain ⟨s', hs', rfl⟩ := List.mem_map.1 (show s ∈ m.2.2.2.map (mvS (MV l)) from hs)
    have g := R.sp s' hs'
    have a := mv_in n l hN s'.1 true g.1 (by omega)
    have b := mv_in n l hN s'.2 false (by omega) g.2.2
    show 0 ≤ MV l s'.1 true ∧ MV l s'.1 true ≤ max (MV l s'.1 true) (MV l s'.2 false) ∧ max (MV l s'.1 true) (MV l s'.2 false) ≤ _
    omega
theorem mv_out2 (x : Int) (b c : Bool) : ∀ (l : List Ed) (g to : Int), Out x l → mv g x b to l = mv g x c to l
  | [], g, to, h => rfl
  | o :: l, g, to, h => by
    rw [mv, mv]
    by_cases k : x < (o.1 : Int)
    · rw [if_pos k, if_pos k]
    · rw [if_neg k, if_neg k]
      have h1 := h o (List.mem_cons_self ..)
      have e : ∀ f, mvi o.1 o.2.1 o.2.2.length x f = x + o.2.2.length - o.2.1 := fun f => by unfold mvi; rw [if_pos (.inl (by omega))]
      rw [e, e]
      exact mv_out2 x b c l _ _ (fun y hy => h y (List.mem_cons_of_mem _ hy))
structure OutM (m : Mk) (l : List Ed) : Prop where
  c : Out m.1 l
  p : ∀ x ∈ m.2.2.1, Out x l
  s : ∀ s ∈ m.2.2.2, Out s.1 l ∧ Out s.2 l
theorem mvM_back (s : List UInt8) (l : List Ed) (hN : Num s.length 0 l) {m : Mk} (R : Rt m s.length) (O : OutM m l) : mvM (MV (bkN s 0 0 l)) (mvM (MV l) m) = m := by
  have one : ∀ (x : Int) (b : Bool), Out x l → MV (bkN s 0 0 l) (MV l x b) b = x := fun x b ho => by
    have := mv_back b s x l 0 0 0 (MV l x b) hN ho (by omega) (by omega) (by rw [Int.zero_add])
    rwa [show -(0 : Int) = 0 from rfl, Int.sub_zero] at this
  obtain ⟨c, ns, ps, sp⟩ := m
  unfold mvM
  refine Prod.ext (one c true O.c) (Prod.ext rfl (Prod.ext ?_ ?_))
  · show (ps.map _).map _ = ps
    rw [List.map_map]
    exact (List.map_congr_left (fun x hx => one x false (O.p x hx))).trans (List.map_id ps)
  · show (sp.map _).map _ = sp
    rw [List.map_map]
    refine (List.map_congr_left (fun t ht => ?_)).trans (List.map_id sp)
    have g := R.sp t ht
    obtain ⟨o1, o2⟩ := O.s t ht
    have f : MV l t.2 false = MV l t.2 true := mv_out2 _ _ _ l _ _ o2
    have mo := mv_mono true s.length t.1 t.2 (by omega) l 0 0 t.1 t.2 hN (.inr (by omega)) (by omega)
    have mo : MV l t.1 true ≤ MV l t.2 true := mo
    have mx : max (MV l t.1 true) (MV l t.2 false) = MV l t.2 false := by omega
    show mvS (MV (bkN s 0 0 l)) (mvS (MV l) t) = t
    unfold mvS
    show (MV (bkN s 0 0 l) (MV l t.1 true) true, max (MV (bkN s 0 0 l) (MV l t.1 true) true) (MV (bkN s 0 0 l) (max (MV l t.1 true) (MV l t.2 false)) false)) = t
    rw [mx, one t.1 true o1, one t.2 false o2, Int.max_eq_right (by omega)]

theorem push_eq (m : Mk) (a b n : Int) (hm : Sm m) (h : spOk n (a, b) = true) (h32 : m.2.2.2.length < 32) : s_marks_Push (m, (a, (b, (n, ())))) = some (((m.1, (m.2.1, (m.2.2.1, m.2.2.2 ++ [(a, b)]))), 0), ()) := by
  have st : s_marks_Push (m, (a, (b, (n, ())))) = marks_Push.t0 m a b n := rfl
  rw [st]
  simp only [marks_Push.t0, isSpan_eq, bindR_val, h, notB_true, iteB_false]
  rw [decide_eq_false (by omega), iteB_false, of_eq m hm, bindR_val, room_ok (by simp; omega), mustR_true]
abbrev xyN : List Ed := [(2, (0, [120, 121]))]
theorem alive25 : s_law25_alive () = some (true, ()) := by
  have st : s_law25_alive () = law25_alive.t0 := rfl
  rw [st]
  have S0 : Srt [] := fun i j _ h => by simp at h
  obtain ⟨p, A, B⟩ := bs_eq [] [97] (by simp) S0
  have hp : p = 0 := by have := A.le; simpa using this
  subst hp
  have e1 : s_marks_Set (((2 : Int), (([] : List (List UInt8)), (([] : List (Int)), ([] : List ((Int) × (Int)))))), (([97] : List UInt8), ((2 : Int), ((3 : Int), ())))) = some (((2, ([[97]], ([2], []))), 0), ()) :=
    (set_eq (2, ([], ([], []))) [97] 2 3 0 ⟨by simp, by simp, by simp⟩ rfl A B).trans rfl
  have e2 : s_marks_Push (((2 : Int), (([[97]] : List (List UInt8)), (([2] : List (Int)), ([] : List ((Int) × (Int)))))), ((1 : Int), ((2 : Int), ((3 : Int), ())))) = some (((2, ([[97]], ([2], [(1, 2)]))), 0), ()) :=
    push_eq (2, ([[97]], ([2], []))) 1 2 3 ⟨by simp, by simp, by simp⟩ rfl (by simp)
  have hS : SmallN xyN := ⟨by simp, fun o ho => by rw [List.mem_singleton.1 ho]; simp⟩
  have hN : Num 3 0 xyN := ⟨by omega, by simp, trivial⟩
  have e3 : s_marks_Move (((2 : Int), (([[97]] : List (List UInt8)), (([2] : List (Int)), ([(1, 2)] : List ((Int) × (Int)))))), (([((2 : Int), ((0 : Int), ([120, 121] : List UInt8)))] : List ((Int) × ((Int) × (List UInt8)))), ())) = some ((4, ([[97]], ([2], [(1, 2)]))), ()) := by
    refine (moveM_eq (xyN.map cE) (m := (2, ([[97]], ([2], [(1, 2)])))) (mvOk 3 (by omega) xyN hS hN ⟨by simp, fun x hx => ?_, fun x hx => ?_⟩) ⟨by simp, by simp, by simp⟩).trans ?_
    · rw [List.mem_singleton.1 hx]; omega
    · rw [List.mem_singleton.1 hx]; simp
    · have : max (1 : Int) 2 = 2 := by omega
      simp [mvM, mvS, MV, mv, mvi, this]
  have S1 : Srt [[97]] := fun i j h1 h => by simp at h; omega
  obtain ⟨q, A2, B2⟩ := bs_eq [[97]] [97] (by simp) S1
  have hq : q = 0 := by
    have := A2.le
    by_cases c : q = 0
    · exact c
    · have := A2.lo 0 (by omega)
      rw [show nmg [[97]] 0 = [97] from rfl, bl_irr] at this; cases this
  subst hq
  have e4 : s_marks_Place (((4 : Int), (([[97]] : List (List UInt8)), (([2] : List (Int)), ([(1, 2)] : List ((Int) × (Int)))))), (([97] : List UInt8), ())) = some ((2, true), ()) :=
    (place_eq (4, ([[97]], ([2], [(1, 2)]))) [97] 0 rfl A2 B2).trans rfl
  have e5 : s_marks_Top (((4 : Int), (([[97]] : List (List UInt8)), (([2] : List (Int)), ([(1, 2)] : List ((Int) × (Int)))))), ()) = some ((1, (2, true)), ()) := by kernel_rfl
  simp only [law25_alive.t0, e1, e2, e3, e4, e5, bindR_val]
  rfl

theorem mm_p10 (s : List UInt8) (lN : List Ed) (H : SmallN lN) (hN : Num s.length 0 lN) (hs : s.length ≤ 10000) (all : List Int) (a9 : Nat → law25_MarksMove.T9) (d i : Nat) (hi : i < all.length) (m x : Mk) : ∀ (k j : Nat), lN.length < k + j → j ≤ lN.length →
    law25_MarksMove.p10 fuel (a9 d) k s (lN.map cE) all (i : Int) (j : Int) m x = some (true, ()) ∨ (Out (all.getD i 0) (lN.drop j) ∧ law25_MarksMove.p10 fuel (a9 d) k s (lN.map cE) all (i : Int) (j : Int) m x = law25_MarksMove.p13 fuel (a9 d) s (lN.map cE) all (i : Int) m x)
  | 0, j, hk, hj => by omega
  | k + 1, j, hk, hj => by
    have step : law25_MarksMove.p10 fuel (a9 d) (k + 1) s (lN.map cE) all (i : Int) (j : Int) m x = law25_MarksMove.t10 (law25_MarksMove.p12 fuel (a9 d) (law25_MarksMove.p10 fuel (a9 d) k)) (law25_MarksMove.p13 fuel (a9 d)) s (lN.map cE) all (i : Int) (j : Int) m x := rfl
    rw [step]
    have hL := H.1
    have p12t : law25_MarksMove.p12 fuel (a9 d) (law25_MarksMove.p10 fuel (a9 d) k) s (lN.map cE) all (i : Int) (j : Int) true m x = some (true, ()) := rfl
    simp only [law25_MarksMove.t10, iteB_dec]
    by_cases h1 : j < lN.length
    · have wi : w64 ((j : Int) + 1) = ((j + 1 : Nat) : Int) := w64_id (by omega) (by omega)
      obtain ⟨o, ho, hg⟩ := getE lN j h1
      have hm : j < (lN.map cE).length := by rw [List.length_map]; exact h1
      obtain ⟨e', he', hD⟩ := Num.drop j hN (by omega)
      rw [ho] at hD
      have hin1 := hD.1
      have hin2 := hD.2.1
      have hin3 := (Num.xA hD.2.2 hD.2.1)
      have p12f : law25_MarksMove.p12 fuel (a9 d) (law25_MarksMove.p10 fuel (a9 d) k) s (lN.map cE) all (i : Int) (j : Int) false m x = law25_MarksMove.p10 fuel (a9 d) k s (lN.map cE) all (i : Int) ((j + 1 : Nat) : Int) m x := by rw [← wi]; rfl
      have ih := mm_p10 s lN H hN hs all a9 d i hi m x k (j + 1) (by omega) (by omega)
      rw [if_pos (by rw [List.length_map]; omega)]
      simp only [withinR_nat hi, withinR_nat hm, hg]
      have wa : w64 ((cE o).1 + (cE o).2.1) = (o.1 : Int) + o.2.1 := w64_id (n := (o.1 : Int) + o.2.1) (by omega) (by omega)
      rw [wa]
      show (if (o.1 : Int) ≤ all.getD i 0 then _ else _) = _ ∨ (_ ∧ (if (o.1 : Int) ≤ all.getD i 0 then _ else _) = _)
      by_cases c1 : (o.1 : Int) ≤ all.getD i 0
      · rw [if_pos c1]
        by_cases c2 : all.getD i 0 ≤ (o.1 : Int) + o.2.1
        · rw [decide_eq_true c2]; exact .inl p12t
        · rw [decide_eq_false c2, p12f]
          rcases ih with h | ⟨h, e⟩
          · exact .inl h
          · refine .inr ⟨?_, e⟩
            rw [ho]
            intro q hq
            rcases List.mem_cons.1 hq with rfl | hq
            · exact fun h => c2 h.2
            · exact h q hq
      · rw [if_neg c1, p12f]
        rcases ih with h | ⟨h, e⟩
        · exact .inl h
        · refine .inr ⟨?_, e⟩
          rw [ho]
          intro q hq
          rcases List.mem_cons.1 hq with rfl | hq
          · exact fun h => c1 h.1
          · exact h q hq
    · rw [if_neg (by rw [List.length_map]; omega)]
      exact .inr ⟨by rw [List.drop_of_length_le (by omega)]; exact fun q hq => (by cases hq), rfl⟩
theorem mm_p9 (s : List UInt8) (lN : List Ed) (H : SmallN lN) (hN : Num s.length 0 lN) (hs : s.length ≤ 10000) (all : List Int) (ha : all.length ≤ 1000000) (m x : Mk) : ∀ (k i : Nat), all.length < k + i → i ≤ all.length →
    law25_MarksMove.p9 fuel k s (lN.map cE) all (i : Int) m x = some (true, ()) ∨ ((∀ y ∈ all.drop i, Out y lN) ∧ law25_MarksMove.p9 fuel k s (lN.map cE) all (i : Int) m x = law25_MarksMove.t11 s (lN.map cE) m x)
  | 0, i, hk, hi => by omega
  | k + 1, i, hk, hi => by
    have step : law25_MarksMove.p9 fuel (k + 1) s (lN.map cE) all (i : Int) m x = law25_MarksMove.t9 (law25_MarksMove.p10 fuel (law25_MarksMove.p9 fuel k) fuel) (law25_MarksMove.p11 fuel) s (lN.map cE) all (i : Int) m x := rfl
    rw [step]
    simp only [law25_MarksMove.t9, iteB_dec]
    by_cases h1 : i < all.length
    · have wi : w64 ((i : Int) + 1) = ((i + 1 : Nat) : Int) := w64_id (by omega) (by omega)
      rw [if_pos (by omega)]
      rcases mm_p10 s lN H hN hs all (fun d => law25_MarksMove.p9 fuel d) k i h1 m x fuel 0 (by have := H.1; have := fuel_gt lN.length (by omega); omega) (by omega) with h | ⟨ho, h⟩
      · exact .inl h
      · have h' : law25_MarksMove.p10 fuel (law25_MarksMove.p9 fuel k) fuel s (lN.map cE) all (i : Int) 0 m x = law25_MarksMove.p9 fuel k s (lN.map cE) all ((i + 1 : Nat) : Int) m x := by rw [← wi]; exact h
        rw [h']
        rw [List.drop_zero] at ho
        rcases mm_p9 s lN H hN hs all ha m x k (i + 1) (by omega) (by omega) with q | ⟨q, e⟩
        · exact .inl q
        · refine .inr ⟨fun y hy => ?_, e⟩
          rw [List.drop_eq_getElem_cons h1] at hy
          rcases List.mem_cons.1 hy with rfl | hy
          · rwa [show all.getD i 0 = all[i] by simp [h1]] at ho
          · exact q y hy
    · rw [if_neg (by omega)]
      exact .inr ⟨fun y hy => (by rw [List.drop_of_length_le (by omega)] at hy; cases hy), rfl⟩
def sps (l : List (Int × Int)) : List Int := l.flatMap fun s => [s.1, s.2]
theorem mm_p7 (s : List UInt8) (l : List EdI) (m x : Mk) (hm : m.2.2.2.length ≤ 60) : ∀ (k i : Nat) (all : List Int), m.2.2.2.length < k + i → i ≤ m.2.2.2.length → all.length ≤ 61 + 2 * i →
    law25_MarksMove.p7 fuel k s l all (i : Int) m x = law25_MarksMove.p9 fuel fuel s l (all ++ sps (m.2.2.2.drop i)) 0 m x
  | 0, i, all, hk, hi, ha => by omega
  | k + 1, i, all, hk, hi, ha => by
    have step : law25_MarksMove.p7 fuel (k + 1) s l all (i : Int) m x = law25_MarksMove.t7 (law25_MarksMove.p7 fuel k) (law25_MarksMove.p8 fuel) s l all (i : Int) m x := rfl
    rw [step]
    simp only [law25_MarksMove.t7, iteB_dec]
    by_cases h1 : i < m.2.2.2.length
    · have wi : w64 ((i : Int) + 1) = ((i + 1 : Nat) : Int) := w64_id (by omega) (by omega)
      have hg : m.2.2.2.getD i ((0 : Int), (0 : Int)) = m.2.2.2[i] := by simp [h1]
      rw [if_pos (by omega)]
      simp only [withinR_nat h1, hg]
      rw [room_ok (by simp; omega), mustR_true, wi, mm_p7 s l m x hm k (i + 1) _ (by omega) (by omega) (by simp; omega), List.drop_eq_getElem_cons h1, List.append_assoc]
      rfl
    · rw [if_neg (by omega), List.drop_of_length_le (by omega), show sps [] = [] from rfl, List.append_nil]; rfl
theorem moveLaw (s : List UInt8) (m : Mk) (l : List EdI) : s_law25_MarksMove (s, (m, (l, ()))) = some (true, ()) := by
  have st : s_law25_MarksMove (s, (m, (l, ()))) = law25_MarksMove.t0 (law25_MarksMove.p1 fuel) s m l := rfl
  rw [st]
  obtain ⟨g, G, hG⟩ := Great_eq l
  obtain ⟨gm, GM, hGM⟩ := mGreat_eq m
  have t1t : law25_MarksMove.p1 fuel s l true m = iteB (decide ((500 : Int) < ((List.length s : Nat) : Int))) (some (true, ())) (iteB gm (some (true, ())) (some (g, ()))) := by
    show iteB (decide ((500 : Int) < ((List.length s : Nat) : Int))) (some (true, ())) (bindR (s_law25_Great (m, ())) fun r6 => (iteB r6.1 (some (true, ())) (bindR (s_law04_Great (l, ())) fun r7 => (some (r7.1, ()))))) = _
    rw [GM, bindR_val, G, bindR_val]
  have t1f : law25_MarksMove.p1 fuel s l false m = law25_MarksMove.t2 (law25_MarksMove.p3 fuel) s l m := rfl
  have t3t : law25_MarksMove.p3 fuel s l true m = some (true, ()) := rfl
  have t3f : law25_MarksMove.p3 fuel s l false m = law25_MarksMove.t4 (law25_MarksMove.p5 fuel) s l m := rfl
  simp only [law25_MarksMove.t0, alive25, bindR_val, notB_true, iteB_false, iteB_dec, GM, G, right_eq, rright_eq]
  by_cases c : (500 : Int) < (s.length : Int)
  · rw [if_pos c, t1t, decide_eq_true c]; rfl
  rw [if_neg c]
  cases gm with
  | true => rw [iteB_true, t1t, decide_eq_false c]; rfl
  | false =>
  rw [iteB_false]
  cases g with
  | true => rw [iteB_true, t1t, decide_eq_false c]; rfl
  | false =>
    have H := hG rfl
    rw [iteB_false, show (!(rgt m (s.length : Int) == rgt m (s.length : Int))) = false by simp, t1f]
    simp only [law25_MarksMove.t2, rright_eq, bindR_val]
    cases hR : rgt m (s.length : Int) with
    | false => rw [notB_false, iteB_true, t3t]
    | true =>
      have R := rt_of m _ hR
      rw [notB_true, iteB_false, rcheck_eq s (by omega) _ H, bindR_val]
      by_cases hc : chk s 0 s.length l = 0
      · show law25_MarksMove.p3 fuel s l (!decide (chk s 0 s.length l = 0)) m = _
        rw [decide_eq_true hc, Bool.not_true, t3f]
        obtain ⟨lN, rfl, hN, hE, hg⟩ := chk_zero s l 0 _ hc
        have hS := H.nat
        have hL := hS.1
        have al := applen s lN 0 hN (by omega)
        have B := R.inB.wide (show (-1000000 : Int) ≤ 0 by omega) (show (s.length : Int) ≤ 1000000 by omega)
        have M1 := moveM_eq (lN.map cE) (mvOk s.length (by omega) lN hS hN B) R.sm
        have M2 := rmoveM_eq (lN.map cE) (rmvOk s.length (by omega) lN hS hN B) R.sm
        have R2 : Rt (mvM (MV lN) m) ((app s lN).length : Int) := by rw [al]; exact rt_mv s.length lN hN R
        have Z : Sz (mvM (MV lN) m) := ⟨by have := R2.sm.1; omega, by have := R2.sm.2.1; omega, by have := R2.sm.2.2; omega⟩
        have p5f : law25_MarksMove.p5 fuel s (lN.map cE) false m (mvM (MV lN) m) = law25_MarksMove.t6 (law25_MarksMove.p7 fuel fuel) s (lN.map cE) m (mvM (MV lN) m) := rfl
        simp only [law25_MarksMove.t4, M1, bindR_val, rApply_eq s (by omega) lN hS hN, M2, sameM_eq _ _ Z, decide_true, notB_true, iteB_false, rright_eq, rt_to _ _ R2, p5f]
        have h60 := R.sm.2.1
        have h61 := R.sm.2.2
        simp only [law25_MarksMove.t6]
        rw [room_ok (by simp; omega), mustR_true]
        have e7 := mm_p7 s (lN.map cE) m (mvM (MV lN) m) h61 fuel 0 ([m.1] ++ m.2.2.1) (by have := fuel_gt m.2.2.2.length (by omega); omega) (by omega) (by simp; omega)
        refine Eq.trans e7 ?_
        rw [List.drop_zero]
        have hlen : (sps m.2.2.2).length ≤ 120 := by
          have : ∀ l : List (Int × Int), (sps l).length = 2 * l.length := fun l => by
            induction l with
            | nil => rfl
            | cons a l ih => show ([a.1, a.2] ++ sps l).length = _; rw [List.length_append, ih]; simp; omega
          rw [this]; omega
        rcases mm_p9 s lN hS hN (by omega) ([m.1] ++ m.2.2.1 ++ sps m.2.2.2) (by simp; omega) m (mvM (MV lN) m) fuel 0 (by have := fuel_gt ([m.1] ++ m.2.2.1 ++ sps m.2.2.2).length (by simp; omega); omega) (by omega) with h | ⟨ho, h⟩
        · exact h
        · rw [List.drop_zero] at ho
          have O : OutM m lN := ⟨ho _ (by simp), fun x hx => ho _ (by simp [hx]), fun t ht => ⟨ho _ (by rw [List.mem_append]; exact .inr (List.mem_flatMap.2 ⟨t, ht, by simp⟩)), ho _ (by rw [List.mem_append]; exact .inr (List.mem_flatMap.2 ⟨t, ht, by simp⟩))⟩⟩
          refine Eq.trans h ?_
          have nb := num_bk s (app s lN).length lN 0 0 hN (by omega) (by omega)
          have hbS : SmallN (bkN s 0 0 lN) := ⟨by rw [bkN_len]; exact hL, bkN_small s (by omega) lN 0 0⟩
          have B2 := R2.inB.wide (show (-1000000 : Int) ≤ 0 by omega) (show ((app s lN).length : Int) ≤ 1000000 by omega)
          have M3 := moveM_eq ((bkN s 0 0 lN).map cE) (mvOk (app s lN).length (by omega) (bkN s 0 0 lN) hbS nb B2) R2.sm
          rw [mvM_back s lN hN R O] at M3
          have Zm : Sz m := ⟨by have := R.sm.1; omega, by have := R.sm.2.1; omega, by have := R.sm.2.2; omega⟩
          simp only [law25_MarksMove.t11, rBack_eq (s := s) (by omega) lN hS hN, bindR_val, M3, sameM_eq _ _ Zm, decide_true]
      · show law25_MarksMove.p3 fuel s l (!decide (chk s 0 s.length l = 0)) m = _
        rw [decide_eq_false hc, Bool.not_false, t3t]

end Go.Proofs.Ytdifekkamjoepaa.Vm.Rp
