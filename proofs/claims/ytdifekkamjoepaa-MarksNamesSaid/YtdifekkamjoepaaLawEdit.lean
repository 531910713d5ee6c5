/- The plain laws of edits. -/
import Derived.Test.YtdifekkamjoepaaFnsEdit2
import Derived.Test.YtdifekkamjoepaaLawPlace
namespace Go.Proofs.Ytdifekkamjoepaa.Vm.Rp
open Go Go.Proofs.Ytdifekkamjoepaa.Vm
set_option linter.unusedVariables false
section
variable {z : Nat}


def sgn (n : Int) : Bool := decide (0 ≤ n) && (decide (n < 1114112) && (decide (n < 55296) || decide (57343 < n)))
def enc (n : Nat) : List UInt8 :=
  if n < 128 then [UInt8.ofNat n]
  else if n < 2048 then [UInt8.ofNat (192 + n / 64), UInt8.ofNat (128 + n % 64)]
  else if n < 65536 then [UInt8.ofNat (224 + n / 4096), UInt8.ofNat (128 + n / 64 % 64), UInt8.ofNat (128 + n % 64)]
  else [UInt8.ofNat (240 + n / 262144), UInt8.ofNat (128 + n / 4096 % 64), UInt8.ofNat (128 + n / 64 % 64), UInt8.ofNat (128 + n % 64)]
def n2 (a d : UInt8) : Nat := 64 * (a.toNat - 192) + d.toNat % 64
def n3 (a d e : UInt8) : Nat := 64 * (64 * (a.toNat - 224) + d.toNat % 64) + e.toNat % 64
def n4 (a d e f : UInt8) : Nat := 64 * (64 * (64 * (a.toNat - 240) + d.toNat % 64) + e.toNat % 64) + f.toNat % 64
def no : Int × Int := (-1, 0)
def b0 (s : List UInt8) (i : Nat) : Int := ((s.getD i 0).toNat : Int)
def cond (s : List UInt8) (k : Nat) (n f : Int) : Prop := 0 ≤ f ∧ sgn n = true ∧ enc n.toNat = s.take k
instance (s : List UInt8) (k : Nat) (n f : Int) : Decidable (cond s k n f) := inferInstanceAs (Decidable (_ ∧ _ ∧ _))

def v1 (s : List UInt8) : Int := b0 s 0
def v2 (s : List UInt8) : Int := 64 * (b0 s 0 - 192) + b0 s 1 % 64
def v3 (s : List UInt8) : Int := 64 * (64 * (b0 s 0 - 224) + b0 s 1 % 64) + b0 s 2 % 64
def v4 (s : List UInt8) : Int := 64 * (64 * (64 * (b0 s 0 - 240) + b0 s 1 % 64) + b0 s 2 % 64) + b0 s 3 % 64
def edg (s : List UInt8) (i : Int) : Bool := decide (i = (s.length : Int)) || (decide (0 ≤ i) && (decide (i < (s.length : Int)) && !isF (s.getD i.toNat 0)))
def W (ms : List Nat) : List UInt8 := (ms.map enc).flatten
end
end Go.Proofs.Ytdifekkamjoepaa.Vm.Rp
namespace Go.Proofs.Ytdifekkamjoepaa.Vm.Rp
open Go Go.Proofs.Ytdifekkamjoepaa.Vm
set_option linter.unusedVariables false

abbrev EdI := Int × (Int × List UInt8)
abbrev Ed := Nat × (Nat × List UInt8)
def cE (o : Ed) : EdI := ((o.1 : Int), ((o.2.1 : Int), o.2.2))
def e0 : EdI := ((0 : Int), ((0 : Int), ([] : List UInt8)))

def Small (l : List EdI) : Prop := l.length ≤ 100 ∧ ∀ o ∈ l, o.2.2.length ≤ 10000
theorem Small.get {l : List EdI} (H : Small l) {i : Nat} (h : i < l.length) : (l.getD i e0).2.2.length ≤ 10000 := by
  apply H.2
  rw [List.getD_eq_getElem?_getD, List.getElem?_eq_getElem h]; exact List.getElem_mem h
theorem put_eq (g e : Int) (acc : List EdI) (o : EdI) (ha : acc.length ≤ 100) (h1 : -100000000 ≤ g) (h2 : g ≤ 100000000) (h3 : o.2.2.length ≤ 10000) (h4 : -100000000 ≤ o.2.1) (h5 : o.2.1 ≤ 100000000) (h6 : -100000000 ≤ o.1) (h7 : o.1 ≤ 100000000) :
    s_edit_edits_put (((g, e), acc), (o, ())) = some ((), ((((g + ((o.2.2.length : Int) - o.2.1), o.1 + o.2.1), acc ++ [o])), ())) := by
  have st : s_edit_edits_put (((g, e), acc), (o, ())) = edit_edits_put.t0 ((g, e), acc) o := rfl
  rw [st]
  simp only [edit_edits_put.t0, room]
  rw [mustR_dec (by simp; omega), w64_id (n := (o.2.2.length : Int) - o.2.1) (by omega) (by omega), w64_id (by omega) (by omega), w64_id (by omega) (by omega)]
def grow : List Ed → Int
  | [] => 0
  | o :: l => (o.2.2.length : Int) - o.2.1 + grow l
def Num (n : Nat) : Nat → List Ed → Prop
  | e, [] => True
  | e, o :: l => e ≤ o.1 ∧ o.1 + o.2.1 ≤ n ∧ Num n (o.1 + o.2.1) l
theorem Num.drop {n : Nat} : ∀ {l : List Ed} {e : Nat} (i : Nat), Num n e l → e ≤ n → ∃ e', e' ≤ n ∧ Num n e' (l.drop i)
  | l, e, 0, H, he => ⟨e, he, H⟩
  | [], e, i + 1, H, he => ⟨e, he, H⟩
  | o :: l, e, i + 1, H, he => Num.drop i H.2.2 H.2.1
end Go.Proofs.Ytdifekkamjoepaa.Vm.Rp
namespace Go.Proofs.Ytdifekkamjoepaa.Vm.Rp
open Go Go.Proofs.Ytdifekkamjoepaa.Vm
set_option linter.unusedVariables false

def SmallN (l : List Ed) : Prop := l.length ≤ 100 ∧ ∀ o ∈ l, o.2.2.length ≤ 10000
theorem SmallN.map {l : List Ed} (H : SmallN l) : Small (l.map cE) := ⟨by simpa using H.1, fun o ho => by
  obtain ⟨x, hx, rfl⟩ := List.mem_map.1 ho
  exact H.2 x hx⟩
theorem SmallN.cons {o : Ed} {l : List Ed} (H : SmallN (o :: l)) : o.2.2.length ≤ 10000 ∧ SmallN l := ⟨H.2 o (List.mem_cons_self ..), by have := H.1; simp at this; omega, fun x hx => H.2 x (List.mem_cons_of_mem _ hx)⟩
theorem SmallN.drop {l : List Ed} (H : SmallN l) (i : Nat) : SmallN (l.drop i) := ⟨by rw [List.length_drop]; have := H.1; omega, fun o ho => H.2 o (List.mem_of_mem_drop ho)⟩
theorem SmallN.take {l : List Ed} (H : SmallN l) (i : Nat) : SmallN (l.take i) := ⟨by rw [List.length_take]; have := H.1; omega, fun o ho => H.2 o (List.mem_of_mem_take ho)⟩
theorem grow_le : ∀ (l : List Ed), SmallN l → grow l ≤ 10000 * (l.length : Int)
  | [], _ => by simp [grow]
  | o :: l, H => by
    have := grow_le l H.cons.2
    have := H.cons.1
    simp only [grow, List.length_cons]; omega
theorem getE (l : List Ed) (i : Nat) (h : i < l.length) : ∃ o, l.drop i = o :: l.drop (i + 1) ∧ List.getD (l.map cE) i ((0 : Int), ((0 : Int), ([] : List UInt8))) = cE o := by
  refine ⟨l[i], List.drop_eq_getElem_cons h, ?_⟩
  rw [List.getD_eq_getElem?_getD, List.getElem?_map, List.getElem?_eq_getElem h]; rfl

def Pt (x7 : List (Option N0)) (ts : List (List UInt8)) : Prop := x7.length = ts.length ∧ ∀ i, i < x7.length → Ro (ts.getD i []) (x7.getD i none) ∧ (ts.getD i []).length < 100000000
theorem Pt.cons {x7 : List (Option N0)} {ts : List (List UInt8)} (H : Pt x7 ts) {x : Option N0} {t : List UInt8} (R : Ro t x) (ht : t.length < 100000000) : Pt (x :: x7) (t :: ts) := ⟨by simp [H.1], fun i hi => by
  cases i with
  | zero => exact ⟨R, ht⟩
  | succ i =>
    simp only [List.getD_cons_succ]
    exact H.2 i (by simp at hi; omega)⟩
theorem grow_take_step (l : List Ed) (i : Nat) (o : Ed) (h : i < l.length) (ho : l.drop i = o :: l.drop (i + 1)) : grow (l.take (i + 1)) = grow (l.take i) + ((o.2.2.length : Int) - o.2.1) := by
  have e : ∀ (a b : List Ed), grow (a ++ b) = grow a + grow b := by
    intro a b
    induction a with
    | nil => simp [grow]
    | cons x a ih => simp only [List.cons_append, grow, ih]; omega
  have h2 : l.take (i + 1) = l.take i ++ [o] := by
    rw [List.take_succ_eq_append_getElem h]
    congr 2
    rw [List.drop_eq_getElem_cons h] at ho
    exact (List.cons.inj ho).1
  rw [h2, e]; simp [grow]
theorem grow_bound (n : Nat) (hn : n ≤ 10000) : ∀ (l : List Ed) (e : Nat), SmallN l → Num n e l → -10000 * (l.length : Int) ≤ grow l
  | [], _, _, _ => by simp [grow]
  | o :: l, e, H, hN => by
    have := grow_bound n hn l _ H.cons.2 hN.2.2
    have := hN.2.1
    simp only [grow, List.length_cons]; omega
theorem Num.take {n : Nat} : ∀ {l : List Ed} {e : Nat} (i : Nat), Num n e l → Num n e (l.take i)
  | l, e, 0, H => by simp only [List.take_zero]; trivial
  | [], e, i + 1, H => trivial
  | o :: l, e, i + 1, H => ⟨H.1, H.2.1, H.2.2.take i⟩
def bk (s : List UInt8) : Int → List Ed → List EdI
  | _, [] => []
  | g, o :: l => ((o.1 : Int) + g, ((o.2.2.length : Int), (s.take (o.1 + o.2.1)).drop o.1)) :: bk s (g + ((o.2.2.length : Int) - o.2.1)) l
def hE : List UInt8 → Bool
  | [] => true
  | c :: _ => !isF c
end Go.Proofs.Ytdifekkamjoepaa.Vm.Rp
namespace Go.Proofs.Ytdifekkamjoepaa.Vm.Rp
open Go Go.Proofs.Ytdifekkamjoepaa.Vm
set_option linter.unusedVariables false
end Go.Proofs.Ytdifekkamjoepaa.Vm.Rp
namespace Go.Proofs.Ytdifekkamjoepaa.Vm.Rp
open Go Go.Proofs.Ytdifekkamjoepaa.Vm
set_option linter.unusedVariables false

/-- By one edit that begins at it or ahead of it. -/
def mvi (a d n : Int) (at_ : Int) (after : Bool) : Int :=
  if a + d < at_ ∨ at_ = a + d ∧ 0 < d then at_ + n - d
  else if at_ = a ∧ (0 < d ∨ after = false) ∨ a < at_ ∧ after = false then a
  else a + n
theorem moved_eq (a d : Int) (S : List UInt8) (at_ : Int) (after : Bool) (h1 : -1000000 ≤ at_) (h2 : at_ ≤ 1000000) (h3 : -1000000 ≤ a ∧ a ≤ 1000000) (h4 : 0 ≤ d ∧ d ≤ 1000000) (h5 : S.length ≤ 1000000) : s_edit_moved ((a, (d, S)), (at_, (after, ()))) = some (mvi a d S.length at_ after, ()) := by
  have st : s_edit_moved ((a, (d, S)), (at_, (after, ()))) = edit_moved.t0 (edit_moved.p1 fuel) (a, (d, S)) at_ after := rfl
  rw [st]
  have w1 : w64 (a + d) = a + d := w64_id (by omega) (by omega)
  have w2 : w64 (w64 (at_ + (S.length : Int)) - d) = at_ + S.length - d := by
    rw [w64_id (n := at_ + (S.length : Int)) (by omega) (by omega), w64_id (by omega) (by omega)]
  have w3 : w64 (a + (S.length : Int)) = a + S.length := w64_id (by omega) (by omega)
  have p1t : edit_moved.p1 fuel at_ after true (a, (d, S)) = some (at_ + S.length - d, ()) := by
    show some (w64 (w64 (at_ + (S.length : Int)) - d), ()) = _
    rw [w2]
  have p2t : edit_moved.p2 fuel true (a, (d, S)) = some (a, ()) := rfl
  have p2f : edit_moved.p2 fuel false (a, (d, S)) = some (a + S.length, ()) := by
    show some (w64 (a + (S.length : Int)), ()) = _
    rw [w3]
  have p1f : edit_moved.p1 fuel at_ after false (a, (d, S)) = some ((if at_ = a ∧ (0 < d ∨ after = false) ∨ a < at_ ∧ after = false then a else a + S.length), ()) := by
    show edit_moved.t1 (edit_moved.p2 fuel) at_ after false (a, (d, S)) = _
    have yes : at_ = a ∧ (0 < d ∨ after = false) ∨ a < at_ ∧ after = false → edit_moved.p2 fuel true (a, (d, S)) = some ((if at_ = a ∧ (0 < d ∨ after = false) ∨ a < at_ ∧ after = false then a else a + S.length), ()) := fun h => by rw [if_pos h]; exact p2t
    have nay : ¬ (at_ = a ∧ (0 < d ∨ after = false) ∨ a < at_ ∧ after = false) → edit_moved.p2 fuel false (a, (d, S)) = some ((if at_ = a ∧ (0 < d ∨ after = false) ∨ a < at_ ∧ after = false then a else a + S.length), ()) := fun h => by rw [if_neg h]; exact p2f
    generalize (if at_ = a ∧ (0 < d ∨ after = false) ∨ a < at_ ∧ after = false then a else a + (S.length : Int)) = v at yes nay ⊢
    simp only [edit_moved.t1, iteB_false, iteB_dec]
    by_cases c1 : at_ = a
    · rw [if_pos c1]
      by_cases c2 : (0 : Int) < d
      · rw [if_pos c2]; exact yes (.inl ⟨c1, .inl c2⟩)
      · rw [if_neg c2]
        have c3 : ¬ a < at_ := by omega
        cases after with
        | false => simp only [notB_false, iteB_true]; exact yes (.inl ⟨c1, .inr rfl⟩)
        | true =>
          simp only [notB_true, iteB_false, if_neg c3]
          exact nay (fun h => by
            rcases h with ⟨_, h | h⟩ | ⟨_, h⟩
            · exact c2 h
            · cases h
            · cases h)
    · rw [if_neg c1]
      by_cases c2 : a < at_
      · rw [if_pos c2]
        cases after with
        | false => exact yes (.inr ⟨c2, rfl⟩)
        | true => exact nay (fun h => by
            rcases h with ⟨h, _⟩ | ⟨_, h⟩
            · exact c1 h
            · cases h)
      · rw [if_neg c2]; exact nay (fun h => by
          rcases h with ⟨h, _⟩ | ⟨h, _⟩
          · exact c1 h
          · exact c2 h)
  simp only [edit_moved.t0, iteB_dec, w1]
  unfold mvi
  by_cases c1 : a + d < at_
  · rw [if_pos c1, if_pos (.inl c1), decide_eq_true c1]; exact p1t
  · rw [if_neg c1]
    by_cases c2 : at_ = a + d
    · rw [if_pos c2]
      by_cases c3 : (0 : Int) < d
      · rw [decide_eq_true c3, if_pos (.inr ⟨c2, c3⟩)]; exact p1t
      · rw [decide_eq_false c3, if_neg (by omega)]; exact p1f
    · rw [if_neg c2, if_neg (by omega)]; exact p1f
/-- Where a place goes by edits, one behind the other; g is what has grown so far. -/
def mv (g at_ : Int) (after : Bool) (to : Int) : List Ed → Int
  | [] => to
  | o :: l => if at_ < (o.1 : Int) then to else mv (g + ((o.2.2.length : Int) - o.2.1)) at_ after (g + mvi o.1 o.2.1 o.2.2.length at_ after) l
theorem Move_p1 (k : Nat) (n : Nat) (hn : n ≤ 10000) (l : List Ed) (H : SmallN l) (hN : Num n 0 l) (at_ : Int) (after : Bool) (h1 : -1000000 ≤ at_) (h2 : at_ ≤ 1000000) : ∀ (m i : Nat) (to e : Int) (acc : List EdI), l.length < m + i → i ≤ l.length → acc.length = i →
    edit_Move.p1 k m at_ after to (l.map cE) (l.length : Int) (i : Int) ((grow (l.take i), e), acc) = some (mv (grow (l.take i)) at_ after to (l.drop i), ())
  | 0, i, to, e, acc, h, hi, _ => by omega
  | m + 1, i, to, e, acc, h, hi, ha => by
    have hL := H.1
    have step : edit_Move.p1 k (m + 1) at_ after to (l.map cE) (l.length : Int) (i : Int) ((grow (l.take i), e), acc) = edit_Move.t1 (edit_Move.p2 k) (edit_Move.p1 k m) at_ after to (l.map cE) (l.length : Int) (i : Int) ((grow (l.take i), e), acc) := rfl
    rw [step]
    simp only [edit_Move.t1, iteB_dec]
    by_cases c : i < l.length
    · obtain ⟨o, ho, hget⟩ := getE l i c
      have hwl : i < (l.map cE).length := by simp; omega
      have hins := ((H.drop i)).2 o (by rw [ho]; exact List.mem_cons_self ..)
      obtain ⟨e2, he2, hN2⟩ := hN.drop i (Nat.zero_le _)
      rw [ho] at hN2
      have b1 := hN2.1
      have b2 := hN2.2.1
      have g1 := grow_le _ (H.take i)
      have g2 := grow_bound n hn _ 0 (H.take i) (hN.take i)
      have g3 : (l.take i).length = i := by rw [List.length_take]; omega
      have wi : w64 ((i : Int) + 1) = ((i + 1 : Nat) : Int) := w64_id (by omega) (by omega)
      obtain ⟨a, d, S⟩ := o
      have hS : (S.length : Int) ≤ 10000 := by have : S.length ≤ 10000 := hins; omega
      have hal : (a : Int) ≤ n := by have : a + d ≤ n := b2; omega
      have hd : (d : Int) ≤ n := by have : a + d ≤ n := b2; omega
      have P := put_eq (grow (l.take i)) e acc ((a : Int), ((d : Int), S)) (by omega) (by omega) (by omega) hins (by show (_ : Int) ≤ (d : Int); omega) (by show (d : Int) ≤ _; omega) (by show (_ : Int) ≤ (a : Int); omega) (by show (a : Int) ≤ _; omega)
      have M := moved_eq (a : Int) (d : Int) S at_ after h1 h2 (by omega) (by omega) (by omega)
      have wm : w64 (grow (l.take i) + mvi a d S.length at_ after) = grow (l.take i) + mvi a d S.length at_ after := by
        have : -10000000 ≤ mvi a d S.length at_ after ∧ mvi a d S.length at_ after ≤ 10000000 := by
          unfold mvi; repeat' split
          all_goals omega
        exact w64_id (by omega) (by omega)
      rw [if_pos (by omega), withinR_nat hwl, hget, ho, mv]
      show (if at_ < (a : Int) then _ else bindR (s_edit_moved (((a : Int), ((d : Int), S)), _)) _) = some ((if at_ < (a : Int) then _ else _), ())
      by_cases c2 : at_ < (a : Int)
      · rw [if_pos c2, if_pos c2]; rfl
      · rw [if_neg c2, if_neg c2, M, bindR_val]
        show bindR (s_edit_edits_put (_, (((a : Int), ((d : Int), S)), ()))) _ = _
        rw [P, bindR_val]
        have wi' : w64 ((i : Int) + 1) = ((i + 1 : Nat) : Int) := wi
        show edit_Move.p1 k m at_ after (w64 (grow (l.take i) + mvi a d S.length at_ after)) (l.map cE) (l.length : Int) (w64 ((i : Int) + 1)) _ = _
        rw [wm, wi]
        have := Move_p1 k n hn l H hN at_ after h1 h2 m (i + 1) (grow (l.take i) + mvi a d S.length at_ after) ((a : Int) + d) (acc ++ [((a : Int), ((d : Int), S))]) (by omega) (by omega) (by simp [ha])
        rw [grow_take_step l i (a, (d, S)) c ho] at this
        exact this
    · rw [if_neg (by omega), List.drop_of_length_le (by omega)]; rfl
theorem Move_eq (n : Nat) (hn : n ≤ 10000) (l : List Ed) (H : SmallN l) (hN : Num n 0 l) (at_ : Int) (after : Bool) (h1 : -1000000 ≤ at_) (h2 : at_ ≤ 1000000) : s_edit_Move (l.map cE, (at_, (after, ()))) = some (mv 0 at_ after at_ l, ()) := by
  have st : s_edit_Move (l.map cE, (at_, (after, ()))) = edit_Move.p1 fuel fuel at_ after at_ (l.map cE) ((l.map cE).length : Int) 0 (((0 : Int), (0 : Int)), []) := rfl
  rw [st, List.length_map]
  exact Move_p1 fuel n hn l H hN at_ after h1 h2 fuel 0 at_ 0 [] (by have := fuel_gt l.length (by have := H.1; omega); omega) (by omega) rfl

theorem Num.up {n : Nat} : ∀ {l : List Ed} {e : Nat}, Num n e l → ∀ o ∈ l, e ≤ o.1
  | x :: l, e, H, o, ho => by
    rcases List.mem_cons.1 ho with rfl | ho
    · exact H.1
    · have := Num.up H.2.2 o ho
      have := H.1
      omega
theorem Num.low {n : Nat} : ∀ {l : List Ed} {e : Nat} (i : Nat) (o : Ed), Num n e l → l.drop i = o :: l.drop (i + 1) → ∀ x ∈ l.take i, x.1 ≤ o.1
  | [], e, i, o, _, h => by simp at h
  | y :: l, e, 0, o, H, h => by intro x hx; simp at hx
  | y :: l, e, i + 1, o, H, h => by
    intro x hx
    rw [List.take_succ_cons] at hx
    have h' : l.drop i = o :: l.drop (i + 1) := by simpa using h
    rcases List.mem_cons.1 hx with rfl | hx
    · have := Num.up H.2.2 o (List.mem_of_mem_drop (by rw [h']; exact List.mem_cons_self ..))
      omega
    · exact Num.low i o H.2.2 h' x hx
/-- The place lies in none that is taken out. -/
def Out (at_ : Int) (l : List Ed) : Prop := ∀ o ∈ l, ¬ ((o.1 : Int) ≤ at_ ∧ at_ ≤ (o.1 : Int) + o.2.1)
end Go.Proofs.Ytdifekkamjoepaa.Vm.Rp
namespace Go.Proofs.Ytdifekkamjoepaa.Vm.Rp
open Go Go.Proofs.Ytdifekkamjoepaa.Vm
set_option linter.unusedVariables false

/-- What Diff gives: n bytes ahead, q bytes behind. -/
structure Df (s t : List UInt8) (n q : Nat) : Prop where
  a1 : n + q ≤ s.length
  a2 : n + q ≤ t.length
  pre : s.take n = t.take n
  e1 : edg s (n : Int) = true
  e2 : edg t (n : Int) = true
  mx : ∀ j : Nat, j ≤ s.length → j ≤ t.length → s.take j = t.take j → edg s (j : Int) = true → edg t (j : Int) = true → j ≤ n
  suf : s.drop (s.length - q) = t.drop (t.length - q)
  e3 : edg s ((s.length - q : Nat) : Int) = true
  e4 : edg t ((t.length - q : Nat) : Int) = true
  my : ∀ j : Nat, n + j ≤ s.length → n + j ≤ t.length → s.drop (s.length - j) = t.drop (t.length - j) → edg s ((s.length - j : Nat) : Int) = true → edg t ((t.length - j : Nat) : Int) = true → j ≤ q
end Go.Proofs.Ytdifekkamjoepaa.Vm.Rp
