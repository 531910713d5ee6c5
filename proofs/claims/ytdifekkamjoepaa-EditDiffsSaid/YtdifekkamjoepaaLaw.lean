/- The plain laws of ropes. -/
import Derived.Test.YtdifekkamjoepaaVm2
import Derived.Test.YtdifekkamjoepaaFns
namespace Go.Proofs.Ytdifekkamjoepaa.Vm
open Go

section
variable {α β : Type}
@[simp] theorem iteB_true (a b : Option α) : iteB true a b = a := rfl
@[simp] theorem iteB_false (a b : Option α) : iteB false a b = b := rfl
@[simp] theorem mustR_true (κ : Option α) : mustR true κ = κ := rfl
@[simp] theorem bindR_val (y : β) (κ : β → Option α) : bindR (some y) κ = κ y := rfl
theorem iteB_eq (c : Bool) (a b : Option α) : iteB c a b = if c = true then a else b := by cases c <;> rfl
theorem iteB_pos {c : Bool} (h : c = true) (a b : Option α) : iteB c a b = a := by subst h; rfl
theorem iteB_neg {c : Bool} (h : c = false) (a b : Option α) : iteB c a b = b := by subst h; rfl
theorem iteB_dec {p : Prop} [Decidable p] (a b : Option α) : iteB (decide p) a b = if p then a else b := by
  by_cases h : p
  · rw [if_pos h]; exact iteB_pos (decide_eq_true h) a b
  · rw [if_neg h]; exact iteB_neg (decide_eq_false h) a b
theorem mustR_pos {c : Bool} (h : c = true) (κ : Option α) : mustR c κ = κ := by subst h; rfl
theorem mustR_dec {p : Prop} [Decidable p] (h : p) (κ : Option α) : mustR (decide p) κ = κ := mustR_pos (decide_eq_true h) κ
theorem withinR_nat {i n : Nat} (h : i < n) (κ : Nat → Option α) : withinR (i : Int) n κ = κ i := by
  unfold withinR
  rw [mustR_dec (by omega), mustR_dec (by omega)]; rfl
theorem withinR_pos {i : Int} {n : Nat} (h0 : 0 ≤ i) (h : i < n) (κ : Nat → Option α) : withinR i n κ = κ i.toNat := by
  unfold withinR
  rw [mustR_dec h0, mustR_dec h]
theorem withinR_zero {n : Nat} (h : 0 < n) (κ : Nat → Option α) : withinR 0 n κ = κ 0 := withinR_nat (i := 0) h κ
theorem notB_eq (b : Bool) : notB b = !b := rfl
@[simp] theorem notB_true : notB true = false := rfl
@[simp] theorem notB_false : notB false = true := rfl
theorem w64_id {n : Int} (h0 : -9223372036854775808 ≤ n) (h1 : n < 9223372036854775808) : w64 n = n := by
  simp [w64, IntKind.wrap, IntKind.bits, IntKind.signed]; omega
theorem w8_id {n : Int} (h0 : 0 ≤ n) (h1 : n < 256) : w8 n = n := by
  simp [w8, IntKind.wrap, IntKind.bits, IntKind.signed]; omega
theorem byteAt_range (l : List UInt8) (i : Nat) : 0 ≤ byteAt l i ∧ byteAt l i < 256 := by
  have := (List.getD l i 0).toNat_lt
  unfold byteAt; omega
theorem w64_byte (l : List UInt8) (i : Nat) : w64 (byteAt l i) = byteAt l i := by
  have := byteAt_range l i
  exact w64_id (by omega) (by omega)

theorem bits_nat (x : Nat) (h : x < 18446744073709551616) : (BitVec.ofInt 64 (x : Int)).toNat = x := by
  rw [BitVec.toNat_ofInt]
  omega
theorem w64_nat {n : Nat} (h : n < 9223372036854775808) : w64 (n : Int) = n := w64_id (by omega) (by omega)
theorem bitI_or (x y : Nat) (hx : x < 9223372036854775808) (hy : y < 9223372036854775808) : bitI .or .i64 (x : Int) (y : Int) = ((x ||| y : Nat) : Int) := by
  have h : x ||| y < 2 ^ 63 := Nat.or_lt_two_pow (by omega) (by omega)
  have e : bitI .or .i64 (x : Int) (y : Int) = w64 (((BitVec.ofInt 64 (x : Int) ||| BitVec.ofInt 64 (y : Int)).toNat : Nat) : Int) := rfl
  rw [e, BitVec.toNat_or, bits_nat x (by omega), bits_nat y (by omega)]
  exact w64_nat (by omega)
theorem or_add (a b k : Nat) (h : b < 2 ^ k) : (a * 2 ^ k) ||| b = a * 2 ^ k + b := by
  rw [← Nat.shiftLeft_eq, Nat.shiftLeft_add_eq_or_of_lt h]
theorem bitI_shl_or (n m : Nat) (hn : n < 70368744177664) (hm : m < 64) : bitI .or .i64 (shlI .i64 (n : Int) 6) (m : Int) = ((64 * n + m : Nat) : Int) := by
  have e : shlI .i64 (n : Int) 6 = ((n * 2 ^ 6 : Nat) : Int) := by
    show w64 ((n : Int) * 2 ^ 6) = _
    rw [w64_id (by omega) (by omega)]; omega
  rw [e, bitI_or _ _ (by omega) (by omega), or_add n m 6 (by omega)]
  omega
theorem bitI_and_u8 : ∀ c : Nat, c < 256 → bitI .and .u8 (c : Int) 63 = ((c % 64 : Nat) : Int) ∧ (decide (bitI .and .u8 (c : Int) 192 = 128) = decide (128 ≤ c ∧ c ≤ 191)) := by
  decide +kernel
end
end Go.Proofs.Ytdifekkamjoepaa.Vm
namespace Go.Proofs.Ytdifekkamjoepaa.Vm.Rp
open Go Go.Proofs.Ytdifekkamjoepaa.Vm
set_option linter.unusedVariables false

def isF (c : UInt8) : Bool := decide (128 ≤ c.toNat ∧ c.toNat ≤ 191)
def sg (s : List UInt8) : Nat := s.countP (fun c => !isF c)
def nl (s : List UInt8) : Nat := s.count 10
theorem isFollower_eq (c : UInt8) : s_runes_isFollower ((c.toNat : Int), ()) = some (isF c, ()) := by
  simp only [s_runes_isFollower, runes_isFollower.p0, runes_isFollower.t0, isF]
  rw [(bitI_and_u8 c.toNat c.toNat_lt).2]
theorem sg_cons (a : UInt8) (s : List UInt8) : sg (a :: s) = (if isF a = true then 0 else 1) + sg s := by
  unfold sg
  rw [List.countP_cons]
  cases h : isF a <;> simp; omega
theorem sg_append (s t : List UInt8) : sg (s ++ t) = sg s + sg t := List.countP_append
theorem nl_append (s t : List UInt8) : nl (s ++ t) = nl s + nl t := List.count_append
theorem sg_le (s : List UInt8) : sg s ≤ s.length := List.countP_le_length
theorem nl_le (s : List UInt8) : nl s ≤ s.length := List.count_le_length
theorem drop_cons (s : List UInt8) (i : Nat) (h : i < s.length) : s.drop i = s.getD i 0 :: s.drop (i + 1) := by
  rw [List.drop_eq_getElem_cons h]; congr 1; simp [h]
theorem fuel_gt (n : Nat) (h : n < 1000000000000000) : n < fuel := by unfold fuel; omega
theorem count_p1 (k : Nat) (s : List UInt8) (hs : s.length < 1000000000000) : ∀ (m i c : Nat), s.length < m + i → c ≤ i → i ≤ s.length → runes_Count.p1 k m s (c : Int) (s.length : Int) (i : Int) = some (((c + sg (s.drop i) : Nat) : Int), ())
  | 0, i, c, h, _, _ => by omega
  | m + 1, i, c, h, hc, hi => by
    show runes_Count.t1 (runes_Count.p2 k (runes_Count.p1 k m)) (runes_Count.p3 k) s c s.length i = _
    simp only [runes_Count.t1, iteB_dec]
    by_cases hlt : i < s.length
    · rw [if_pos (by omega), withinR_nat hlt]
      show bindR (s_runes_isFollower (((s.getD i 0).toNat : Int), ())) _ = _
      rw [isFollower_eq, bindR_val, drop_cons s i hlt, sg_cons]
      have e : ∀ z : Nat, z ≤ i + 1 → runes_Count.p2 k (runes_Count.p1 k m) s (z : Int) (s.length : Int) (i : Int) = some (((z + sg (s.drop (i + 1)) : Nat) : Int), ()) := fun z hz => by
        show runes_Count.p1 k m s z s.length (w64 ((i : Int) + 1)) = _
        rw [w64_id (by omega) (by omega)]
        exact count_p1 k s hs m (i + 1) z (by omega) hz (by omega)
      cases hF : isF (s.getD i 0) with
      | true => simp only [notB_true, iteB_false]; rw [e c (by omega)]; simp
      | false =>
        simp only [notB_false, iteB_true]
        rw [w64_id (n := (c : Int) + 1) (by omega) (by omega)]
        refine (e (c + 1) (by omega)).trans ?_
        simp; omega
    · rw [if_neg (by omega), List.drop_of_length_le (by omega)]; rfl
theorem count_eq (s : List UInt8) (hs : s.length < 1000000000000) : s_runes_Count (s, ()) = some ((sg s : Int), ()) := by
  have := count_p1 fuel s hs fuel 0 0 (by have := fuel_gt s.length (by omega); omega) (by omega) (by omega)
  rw [List.drop_zero, Nat.zero_add] at this; exact this
theorem Count_eq (s : List UInt8) : s_Count (s, (([10] : List UInt8), ())) = some ((nl s : Int), ()) := by rw [Count_is]; rfl

def leafN (s : List UInt8) : N0 := .mk s.length (nl s) (sg s) 1 s none none
def nodeN (s : List UInt8) (h : Nat) (a b : N0) : N0 := .mk s.length (nl s) (sg s) h [] (some a) (some b)
inductive Tr : Nat → List UInt8 → N0 → Prop
  | leaf {s} : 0 < s.length → s.length ≤ 64 → Tr 1 s (leafN s)
  | node {ha hb sa sb a b} : Tr ha sa a → Tr hb sb b → ha ≤ hb + 1 → hb ≤ ha + 1 → Tr (1 + max ha hb) (sa ++ sb) (nodeN (sa ++ sb) (1 + max ha hb) a b)
def TrO (h : Nat) (s : List UInt8) : Option N0 → Prop
  | none => h = 0 ∧ s = []
  | some n => Tr h s n
section
variable {h ha hb : Nat} {s sa sb : List UInt8} {n a b : N0}
theorem Tr.pos (H : Tr h s n) : 1 ≤ h := by cases H <;> omega
theorem Tr.fields (H : Tr h s n) : (out0 n).1 = ((s.length : Int), ((nl s : Int), ((sg s : Int), (h : Int)))) := by cases H <;> rfl
theorem Tr.len (H : Tr h s n) : (out0 n).1.1 = (s.length : Int) := by rw [H.fields]
theorem Tr.lines (H : Tr h s n) : (out0 n).1.2.1 = (nl s : Int) := by rw [H.fields]
theorem Tr.signs (H : Tr h s n) : (out0 n).1.2.2.1 = (sg s : Int) := by rw [H.fields]
theorem Tr.ht (H : Tr h s n) : (out0 n).1.2.2.2 = (h : Int) := by rw [H.fields]
theorem Tr.txt (H : Tr h s n) : txt n = s := by
  induction H with
  | leaf h1 h2 => simp [leafN, Rp.txt, txtO]
  | node Ha Hb h1 h2 iha ihb => simp [nodeN, Rp.txt, txtO, iha, ihb]
@[simp] theorem leaf_l : (out0 (leafN s)).2.2.1 = none := rfl
@[simp] theorem leaf_r : (out0 (leafN s)).2.2.2 = none := rfl
@[simp] theorem leaf_t : (out0 (leafN s)).2.1 = s := rfl
@[simp] theorem node_l : (out0 (nodeN s h a b)).2.2.1 = some a := rfl
@[simp] theorem node_r : (out0 (nodeN s h a b)).2.2.2 = some b := rfl
@[simp] theorem node_t : (out0 (nodeN s h a b)).2.1 = [] := rfl

theorem Tr.pow (H : Tr h s n) : 2 ^ ((h - 1) / 2) ≤ s.length := by
  induction H with
  | leaf h1 h2 => rw [show (1 - 1) / 2 = 0 from rfl, Nat.pow_zero]; omega
  | @node ha hb sa sb a b Ha Hb h1 h2 iha ihb =>
    have pa := Ha.pos
    have pb := Hb.pos
    rw [List.length_append]
    have hm : 1 + max ha hb - 1 = max ha hb := by omega
    rw [hm]
    rcases Nat.mod_two_eq_zero_or_one (max ha hb) with e | e
    · have e1 : max ha hb / 2 = (max ha hb - 1) / 2 + 1 := by omega
      have e2 : (max ha hb - 1) / 2 ≤ (ha - 1) / 2 := by omega
      have e3 : (max ha hb - 1) / 2 ≤ (hb - 1) / 2 := by omega
      have q2 := Nat.pow_le_pow_right (n := 2) (by decide) e2
      have q3 := Nat.pow_le_pow_right (n := 2) (by decide) e3
      rw [e1, Nat.pow_succ]
      omega
    · rcases Nat.le_total ha hb with hab | hab
      · have e2 : max ha hb / 2 = (hb - 1) / 2 := by omega
        rw [e2]; omega
      · have e2 : max ha hb / 2 = (ha - 1) / 2 := by omega
        rw [e2]; omega
theorem Tr.h_lt (H : Tr h s n) (hs : s.length < 1099511627776) : h < 100 := by
  have hp := H.pow
  rcases Nat.lt_or_ge h 100 with h' | h'
  · exact h'
  · have : (2 : Nat) ^ 49 ≤ 2 ^ ((h - 1) / 2) := Nat.pow_le_pow_right (by decide) (by omega)
    omega

theorem maxI_nat (a b : Nat) : maxI (a : Int) (b : Int) = ((max a b : Nat) : Int) := by unfold maxI; omega
theorem piece_eq (s : List UInt8) (hs : s.length < 1000000000000) : s_rope_piece (s, ()) = some (some (leafN s), ()) := by
  show rope_piece.t0 s = _
  simp only [rope_piece.t0, Count_eq, count_eq s hs, bindR_val]; rfl
theorem both_eq (Ha : Tr ha sa a) (Hb : Tr hb sb b) (hl : (sa ++ sb).length < 1099511627776) : s_rope_both (some a, (some b, ())) = some (some (nodeN (sa ++ sb) (1 + max ha hb) a b), ()) := by
  rw [List.length_append] at hl
  have h1 := Ha.h_lt (by omega)
  have h2 := Hb.h_lt (by omega)
  have := nl_le sa
  have := nl_le sb
  have := sg_le sa
  have := sg_le sb
  show rope_both.t0 (some a) (some b) = _
  simp only [rope_both.t0, bindR_val, Ha.len, Hb.len, Ha.lines, Hb.lines, Ha.signs, Hb.signs, Ha.ht, Hb.ht, maxI_nat]
  rw [w64_id (n := (sa.length : Int) + sb.length) (by omega) (by omega), w64_id (n := (nl sa : Int) + nl sb) (by omega) (by omega), w64_id (n := (sg sa : Int) + sg sb) (by omega) (by omega), w64_id (n := 1 + ((max ha hb : Nat) : Int)) (by omega) (by omega)]
  simp only [nodeN, pk0, List.length_append, nl_append, sg_append]
  congr 6 <;> omega
end
end Go.Proofs.Ytdifekkamjoepaa.Vm.Rp
namespace Go.Proofs.Ytdifekkamjoepaa.Vm.Rp
open Go Go.Proofs.Ytdifekkamjoepaa.Vm
set_option linter.unusedVariables false
section
variable {h ha hb : Nat} {s sa sb : List UInt8} {n a b : N0}

def Ht (n : Nat) : Nat := if n = 0 then 0 else if n ≤ 64 then 1 else 1 + Ht (n - n / 2)
termination_by n
decreasing_by omega
theorem Ht_zero : Ht 0 = 0 := by rw [Ht]; rfl
theorem Ht_small {n : Nat} (h0 : 0 < n) (h : n ≤ 64) : Ht n = 1 := by rw [Ht, if_neg (by omega), if_pos h]
theorem Ht_big {n : Nat} (h : 64 < n) : Ht n = 1 + Ht (n - n / 2) := by rw [Ht.eq_1 n, if_neg (by omega), if_neg (by omega)]
theorem Ht_step : ∀ n, Ht n ≤ Ht (n + 1) ∧ Ht (n + 1) ≤ Ht n + 1 := by
  intro n
  induction n using Nat.strongRecOn with
  | ind n ih =>
    by_cases h0 : n = 0
    · subst h0; rw [Ht_zero, Ht_small (by omega) (by omega)]; omega
    by_cases h1 : n + 1 ≤ 64
    · rw [Ht_small (by omega) (by omega), Ht_small (by omega) (by omega)]; omega
    by_cases h2 : n ≤ 64
    · have : n = 64 := by omega
      subst this
      rw [Ht_small (by omega) (by omega), Ht_big (by omega), Ht_small (by omega) (by omega)]; omega
    · rw [Ht_big (n := n) (by omega), Ht_big (n := n + 1) (by omega)]
      have := ih (n - n / 2) (by omega)
      rcases (by omega : n + 1 - (n + 1) / 2 = n - n / 2 ∨ n + 1 - (n + 1) / 2 = n - n / 2 + 1) with e | e <;> rw [e] <;> omega

theorem of_spec : ∀ (m : Nat) (s : List UInt8), s.length ≤ 2 ^ m → s.length < 1000000000 → ∃ o, r_rope_of (m + 1) (s, ()) = some (o, ()) ∧ TrO (Ht s.length) s o := by
  intro m
  induction m with
  | zero =>
    intro s hs _
    by_cases h0 : s = []
    · subst h0; exact ⟨none, rfl, by rw [List.length_nil, Ht_zero]; exact ⟨rfl, rfl⟩⟩
    have h0' : 0 < s.length := List.length_pos_iff.2 h0
    refine ⟨some (leafN s), ?_, ?_⟩
    · show rope_of.t0 (r_rope_of 0) s = _
      simp only [rope_of.t0, iteB_dec]
      rw [if_neg h0, if_pos (by omega), piece_eq s (by omega)]; rfl
    · rw [Ht_small h0' (by omega)]; exact Tr.leaf h0' (by omega)
  | succ m ih =>
    intro s hs hb
    rw [Nat.pow_succ] at hs
    by_cases h0 : s = []
    · subst h0; exact ⟨none, rfl, by rw [List.length_nil, Ht_zero]; exact ⟨rfl, rfl⟩⟩
    have h0' : 0 < s.length := List.length_pos_iff.2 h0
    by_cases h1 : s.length ≤ 64
    · refine ⟨some (leafN s), ?_, ?_⟩
      · show rope_of.t0 (r_rope_of (m + 1)) s = _
        simp only [rope_of.t0, iteB_dec]
        rw [if_neg h0, if_pos (by omega), piece_eq s (by omega)]; rfl
      · rw [Ht_small h0' h1]; exact Tr.leaf h0' h1
    · have l1 : (List.take (s.length / 2) s).length = s.length / 2 := by rw [List.length_take]; omega
      have l2 : (List.drop (s.length / 2) s).length = s.length - s.length / 2 := List.length_drop
      obtain ⟨o1, e1, t1⟩ := ih (List.take (s.length / 2) s) (by omega) (by omega)
      obtain ⟨o2, e2, t2⟩ := ih (List.drop (s.length / 2) s) (by omega) (by omega)
      rw [l1] at t1
      rw [l2] at t2
      have hmid : w64 (Int.tdiv (s.length : Int) 2) = ((s.length / 2 : Nat) : Int) := by
        rw [Int.tdiv_eq_ediv_of_nonneg (by omega), w64_id (by omega) (by omega)]; rfl
      cases o1 with
      | none => have := congrArg List.length t1.2; rw [l1] at this; simp at this; omega
      | some a =>
        cases o2 with
        | none => have := congrArg List.length t2.2; rw [l2] at this; simp at this; omega
        | some b =>
          have hap := List.take_append_drop (s.length / 2) s
          have hbal : Ht (s.length / 2) ≤ Ht (s.length - s.length / 2) ∧ Ht (s.length - s.length / 2) ≤ Ht (s.length / 2) + 1 := by
            rcases (by omega : s.length - s.length / 2 = s.length / 2 ∨ s.length - s.length / 2 = s.length / 2 + 1) with e | e
            · rw [e]; omega
            · rw [e]; exact Ht_step _
          have hT := Tr.node t1 t2 (by omega) (by omega)
          rw [hap] at hT
          have hH : 1 + max (Ht (s.length / 2)) (Ht (s.length - s.length / 2)) = Ht s.length := by
            rw [Ht_big (n := s.length) (by omega)]; omega
          rw [hH] at hT
          refine ⟨some _, ?_, hT⟩
          show rope_of.t0 (r_rope_of (m + 1)) s = _
          simp only [rope_of.t0, iteB_dec]
          rw [if_neg h0, if_neg (by omega), hmid]
          rw [mustR_dec (by omega), mustR_dec (by omega), mustR_dec (by omega), mustR_dec (by omega)]
          rw [Int.toNat_natCast, List.drop_zero, List.take_length, e1, bindR_val, e2, bindR_val, both_eq t1 t2 (by rw [hap]; omega), bindR_val, hap, hH]
theorem Of_spec (s : List UInt8) (hs : s.length ≤ 4000) : ∃ o h, s_rope_Of (s, ()) = some ((o, 0), ()) ∧ TrO h s o := by
  obtain ⟨m, hm⟩ : ∃ m, fuel = m + 1 := ⟨4611686018427387903, rfl⟩
  obtain ⟨o, h1, h2⟩ := of_spec m s (by
    have : s.length < 2 ^ 12 := by omega
    have h3 : (2 : Nat) ^ 12 ≤ 2 ^ m := Nat.pow_le_pow_right (by decide) (by have := fuel_gt 13 (by decide); omega)
    omega) (by omega)
  refine ⟨o, _, ?_, h2⟩
  show rope_Of.t0 s = _
  simp only [rope_Of.t0, iteB_dec]
  rw [if_neg (by omega)]
  show bindR (r_rope_of fuel (s, ())) _ = _
  rw [hm, h1]; rfl
theorem even_t (x y : Option N0) : s_rope_even (x, (y, ())) = rope_even.t0 x y := rfl
theorem even_spec (Ha : Tr ha sa a) (Hb : Tr hb sb b) (h1 : ha ≤ hb + 2) (h2 : hb ≤ ha + 2) (hl : (sa ++ sb).length < 1099511627776) :
    ∃ n h, s_rope_even (some a, (some b, ())) = some (some n, ()) ∧ Tr h (sa ++ sb) n ∧ max ha hb ≤ h ∧ h ≤ 1 + max ha hb ∧ (ha ≤ hb + 1 → hb ≤ ha + 1 → h = 1 + max ha hb) := by
  have hl' := hl
  rw [List.length_append] at hl'
  have la := Ha.h_lt (by omega)
  have lb := Hb.h_lt (by omega)
  have pa := Ha.pos
  have pb := Hb.pos
  have wa : w64 ((ha : Int) + 1) = ha + 1 := w64_id (by omega) (by omega)
  have wb : w64 ((hb : Int) + 1) = hb + 1 := w64_id (by omega) (by omega)
  by_cases c1 : hb + 1 < ha
  · cases Ha with
    | leaf q1 q2 => omega
    | @node xl xr sl sr l r Hl Hr q1 q2 =>
      have pl := Hl.pos
      have pr := Hr.pos
      rw [List.length_append] at hl'
      by_cases c2 : xr ≤ xl
      · have T1 := Tr.node Hr Hb (by omega) (by omega)
        have T2 := Tr.node Hl T1 (by omega) (by omega)
        rw [← List.append_assoc] at T2
        refine ⟨_, _, ?_, T2, by omega, by omega, fun _ _ => by omega⟩
        rw [even_t]
        simp only [rope_even.t0, bindR_val, node_l, node_r, Hb.ht, (Tr.node Hl Hr q1 q2).ht, wb, wa, iteB_dec, Hl.ht, Hr.ht]
        rw [if_pos (by omega), if_pos (by omega), both_eq Hr Hb (by simp; omega), bindR_val, both_eq Hl T1 (by simp; omega), bindR_val, List.append_assoc]
      · cases Hr with
        | leaf => omega
        | @node xl2 xr2 sl2 sr2 l2 r2 Hl2 Hr2 q3 q4 =>
          have pl2 := Hl2.pos
          have pr2 := Hr2.pos
          rw [List.length_append] at hl'
          have T1 := Tr.node Hl Hl2 (by omega) (by omega)
          have T2 := Tr.node Hr2 Hb (by omega) (by omega)
          have T3 := Tr.node T1 T2 (by omega) (by omega)
          have e : sl ++ (sl2 ++ sr2) ++ sb = (sl ++ sl2) ++ (sr2 ++ sb) := by simp
          refine ⟨_, _, ?_, e ▸ T3, by omega, by omega, fun _ _ => by omega⟩
          rw [even_t]
          simp only [rope_even.t0, bindR_val, node_l, node_r, Hb.ht, (Tr.node Hl (Tr.node Hl2 Hr2 q3 q4) q1 q2).ht, wb, wa, iteB_dec, Hl.ht, (Tr.node Hl2 Hr2 q3 q4).ht]
          rw [if_pos (by omega), if_neg (by omega), both_eq Hl Hl2 (by simp; omega), bindR_val, both_eq Hr2 Hb (by simp; omega), bindR_val, both_eq T1 T2 (by simp; omega), bindR_val]; simp only [List.append_assoc]
  · by_cases c3 : ha + 1 < hb
    · cases Hb with
      | leaf q1 q2 => omega
      | @node xl xr sl sr l r Hl Hr q1 q2 =>
        have pl := Hl.pos
        have pr := Hr.pos
        rw [List.length_append] at hl'
        have Hb := Tr.node Hl Hr q1 q2
        by_cases c2 : xl ≤ xr
        · have T1 := Tr.node Ha Hl (by omega) (by omega)
          have T2 := Tr.node T1 Hr (by omega) (by omega)
          have e : sa ++ (sl ++ sr) = (sa ++ sl) ++ sr := by simp
          refine ⟨_, _, ?_, e ▸ T2, by omega, by omega, fun _ _ => by omega⟩
          rw [even_t]
          simp only [rope_even.t0, bindR_val, node_l, node_r, Hb.ht, Ha.ht, wb, wa, iteB_dec, Hl.ht, Hr.ht]
          rw [if_neg (by omega), if_pos (by omega), if_pos (by omega), both_eq Ha Hl (by simp; omega), bindR_val, both_eq T1 Hr (by simp; omega), bindR_val]; simp only [List.append_assoc]
        · cases Hl with
          | leaf => omega
          | @node xl2 xr2 sl2 sr2 l2 r2 Hl2 Hr2 q3 q4 =>
            have pl2 := Hl2.pos
            have pr2 := Hr2.pos
            rw [List.length_append] at hl'
            have Hl := Tr.node Hl2 Hr2 q3 q4
            have T1 := Tr.node Ha Hl2 (by omega) (by omega)
            have T2 := Tr.node Hr2 Hr (by omega) (by omega)
            have T3 := Tr.node T1 T2 (by omega) (by omega)
            have e : sa ++ (sl2 ++ sr2 ++ sr) = (sa ++ sl2) ++ (sr2 ++ sr) := by simp
            refine ⟨_, _, ?_, e ▸ T3, by omega, by omega, fun _ _ => by omega⟩
            rw [even_t]
            simp only [rope_even.t0, bindR_val, node_l, node_r, Hb.ht, Ha.ht, wb, wa, iteB_dec, Hl.ht, Hr.ht]
            rw [if_neg (by omega), if_pos (by omega), if_neg (by omega), both_eq Ha Hl2 (by simp; omega), bindR_val, both_eq Hr2 Hr (by simp; omega), bindR_val, both_eq T1 T2 (by simp; omega), bindR_val]; simp only [List.append_assoc]
    · refine ⟨_, _, ?_, Tr.node Ha Hb (by omega) (by omega), by omega, by omega, fun _ _ => by omega⟩
      rw [even_t]
      simp only [rope_even.t0, bindR_val, Hb.ht, Ha.ht, wb, wa, iteB_dec]
      rw [if_neg (by omega), if_neg (by omega), both_eq Ha Hb hl, bindR_val]

theorem join_t (m : Nat) (x y : Option N0) : r_rope_join (m + 1) (x, (y, ())) = rope_join.t0 (r_rope_join m) (rope_join.t1 (r_rope_join m) (rope_join.t2 (r_rope_join m))) x y := rfl
theorem join_spec : ∀ (m : Nat) (ha hb : Nat) (sa sb : List UInt8) (x y : Option N0), TrO ha sa x → TrO hb sb y → ha + hb < m → (sa ++ sb).length < 1099511627776 →
    ∃ o h, r_rope_join m (x, (y, ())) = some (o, ()) ∧ TrO h (sa ++ sb) o ∧ max ha hb ≤ h ∧ h ≤ 1 + max ha hb := by
  intro m
  induction m with
  | zero => intros; omega
  | succ m ih =>
    intro ha hb sa sb x y Hx Hy hm hl
    have hl' := hl
    rw [List.length_append] at hl'
    cases x with
    | none =>
      obtain ⟨rfl, rfl⟩ := Hx
      refine ⟨y, hb, ?_, by simpa using Hy, by omega, by omega⟩
      rw [join_t]; rfl
    | some a =>
      have Hx : Tr ha sa a := Hx
      cases y with
      | none =>
        obtain ⟨rfl, rfl⟩ := Hy
        refine ⟨some a, ha, ?_, by rw [List.append_nil]; exact Hx, by omega, by omega⟩
        rw [join_t]; rfl
      | some b =>
        have Hy : Tr hb sb b := Hy
        have la := Hx.h_lt (by omega)
        have lb := Hy.h_lt (by omega)
        have pa := Hx.pos
        have pb := Hy.pos
        have wa : w64 ((ha : Int) + 1) = ha + 1 := w64_id (by omega) (by omega)
        have wb : w64 ((hb : Int) + 1) = hb + 1 := w64_id (by omega) (by omega)
        have wl : w64 ((sa.length : Int) + sb.length) = sa.length + sb.length := w64_id (by omega) (by omega)
        have gen : ∃ o h, rope_join.t1 (r_rope_join m) (rope_join.t2 (r_rope_join m)) (some a) (some b) false = some (o, ()) ∧ TrO h (sa ++ sb) o ∧ max ha hb ≤ h ∧ h ≤ 1 + max ha hb := by
          by_cases c1 : hb + 1 < ha
          · cases Hx with
            | leaf => omega
            | @node xl xr sl sr l r Hl Hr q1 q2 =>
              have pl := Hl.pos
              have pr := Hr.pos
              rw [List.length_append] at hl'
              obtain ⟨o, h, e1, e2, e3, e4⟩ := ih xr hb sr sb (some r) (some b) Hr Hy (by omega) (by simp; omega)
              cases o with
              | none => obtain ⟨rfl, _⟩ := e2; omega
              | some n =>
                have e2 : Tr h (sr ++ sb) n := e2
                obtain ⟨n', h', f1, f2, f3, f4, f5⟩ := even_spec Hl e2 (by omega) (by omega) (by simp; omega)
                rw [← List.append_assoc] at f2
                refine ⟨some n', h', ?_, f2, ?_, ?_⟩
                · simp only [rope_join.t1, iteB_false, bindR_val, node_l, node_r, Hy.ht, (Tr.node Hl Hr q1 q2).ht, wb, iteB_dec]
                  rw [if_pos (by omega), e1, bindR_val, f1, bindR_val]
                · by_cases g : h = xr
                  · have := f5 (by omega) (by omega); omega
                  · omega
                · by_cases g : xl ≤ h + 1 ∧ h ≤ xl + 1
                  · have := f5 g.1 g.2; omega
                  · omega
          · by_cases c2 : ha + 1 < hb
            · cases Hy with
              | leaf => omega
              | @node xl xr sl sr l r Hl Hr q1 q2 =>
                have pl := Hl.pos
                have pr := Hr.pos
                rw [List.length_append] at hl'
                obtain ⟨o, h, e1, e2, e3, e4⟩ := ih ha xl sa sl (some a) (some l) Hx Hl (by omega) (by simp; omega)
                cases o with
                | none => obtain ⟨rfl, _⟩ := e2; omega
                | some n =>
                  have e2 : Tr h (sa ++ sl) n := e2
                  obtain ⟨n', h', f1, f2, f3, f4, f5⟩ := even_spec e2 Hr (by omega) (by omega) (by simp; omega)
                  rw [List.append_assoc] at f2
                  refine ⟨some n', h', ?_, f2, ?_, ?_⟩
                  · simp only [rope_join.t1, iteB_false, bindR_val, node_l, node_r, Hx.ht, (Tr.node Hl Hr q1 q2).ht, wb, wa, iteB_dec]
                    rw [if_neg (by omega), if_pos (by omega), e1, bindR_val, f1, bindR_val]
                  · by_cases g : h = xl
                    · have := f5 (by omega) (by omega); omega
                    · omega
                  · by_cases g : h ≤ xr + 1 ∧ xr ≤ h + 1
                    · have := f5 g.1 g.2; omega
                    · omega
            · refine ⟨some _, _, ?_, Tr.node Hx Hy (by omega) (by omega), by omega, by omega⟩
              simp only [rope_join.t1, iteB_false, bindR_val, Hx.ht, Hy.ht, wb, wa, iteB_dec, rope_join.t2]
              rw [if_neg (by omega), if_neg (by omega), both_eq Hx Hy hl, bindR_val]
        rw [join_t]
        simp only [rope_join.t0, Option.isNone_some, iteB_false, bindR_val, Hx.len, Hy.len, wl]
        cases Hx with
        | node Hl Hr q1 q2 => simpa only [node_l, Option.isNone_some, iteB_false] using gen
        | leaf u1 u2 =>
          cases Hy with
          | node Hl Hr q1 q2 => simpa only [leaf_l, node_l, Option.isNone_some, Option.isNone_none, iteB_false, iteB_true] using gen
          | leaf u3 u4 =>
            simp only [leaf_l, Option.isNone_none, iteB_true]
            by_cases c : sa.length + sb.length ≤ 64
            · rw [decide_eq_true (by omega : (sa.length : Int) + sb.length ≤ 64)]
              have T : Tr 1 (sa ++ sb) (leafN (sa ++ sb)) := Tr.leaf (by simp; omega) (by simp; omega)
              refine ⟨some _, 1, ?_, T, by omega, by omega⟩
              simp only [rope_join.t1, iteB_true, bindR_val, leaf_t]
              rw [mustR_pos, piece_eq _ (by simp; omega), bindR_val]
              exact decide_eq_true (by omega)
            · rw [decide_eq_false (by omega : ¬ (sa.length : Int) + sb.length ≤ 64)]
              exact gen
theorem join_eq {x y : Option N0} (Hx : TrO ha sa x) (Hy : TrO hb sb y) (hl : (sa ++ sb).length < 1099511627776) : ∃ o h, s_rope_join (x, (y, ())) = some (o, ()) ∧ TrO h (sa ++ sb) o := by
  have hl' := hl
  rw [List.length_append] at hl'
  have bx : ha < 100 := by
    cases x with
    | none => have := Hx.1; omega
    | some a => exact Tr.h_lt (h := ha) (s := sa) (n := a) Hx (by omega)
  have bx : hb < 100 := by
    cases y with
    | none => have := Hy.1; omega
    | some a => exact Tr.h_lt (h := hb) (s := sb) (n := a) Hy (by omega)
  obtain ⟨o, h, e1, e2, _⟩ := join_spec fuel ha hb sa sb x y Hx Hy (fuel_gt _ (by omega)) hl
  exact ⟨o, h, e1, e2⟩

theorem split_t (m : Nat) (x : Option N0) (y : Int) : r_rope_split (m + 1) (x, (y, ())) = rope_split.t0 (r_rope_split m) (rope_split.t1 (r_rope_split m) (rope_split.t2 (r_rope_split m))) x y := rfl
def Ro (s : List UInt8) (o : Option N0) : Prop := ∃ h, TrO h s o
theorem split_spec : ∀ (m h : Nat) (s : List UInt8) (x : Option N0) (i : Nat), TrO h s x → h < m → i ≤ s.length → s.length < 1000000000 →
    ∃ o p, r_rope_split m (x, ((i : Int), ())) = some ((o, p), ()) ∧ Ro (s.take i) o ∧ Ro (s.drop i) p := by
  intro m
  induction m with
  | zero => intros; omega
  | succ m ih =>
    intro h s x i Hx hm hi hl
    cases x with
    | none =>
      obtain ⟨rfl, rfl⟩ := Hx
      refine ⟨none, none, ?_, ⟨0, rfl, by simp⟩, ⟨0, rfl, by simp⟩⟩
      rw [split_t]; rfl
    | some a =>
      have Hx : Tr h s a := Hx
      rw [split_t]
      simp only [rope_split.t0, Option.isNone_some, iteB_false]
      by_cases c0 : i = 0
      · subst c0
        refine ⟨none, some a, ?_, ⟨0, rfl, by simp⟩, ⟨h, by rw [List.drop_zero]; exact Hx⟩⟩
        rfl
      rw [decide_eq_false (by omega)]
      simp only [rope_split.t1, iteB_false, bindR_val, Hx.len, iteB_dec]
      by_cases c1 : i = s.length
      · rw [if_pos (by omega)]
        subst c1
        exact ⟨some a, none, rfl, ⟨h, by rw [List.take_length]; exact Hx⟩, ⟨0, rfl, by simp⟩⟩
      rw [if_neg (by omega)]
      cases Hx with
      | leaf u1 u2 =>
        refine ⟨some _, some _, ?_, ⟨1, Tr.leaf (s := s.take i) (by rw [List.length_take]; omega) (by rw [List.length_take]; omega)⟩, ⟨1, Tr.leaf (s := s.drop i) (by rw [List.length_drop]; omega) (by rw [List.length_drop]; omega)⟩⟩
        simp only [leaf_l, Option.isNone_none, iteB_true, leaf_t]
        rw [mustR_dec (by omega), mustR_pos, mustR_dec (by omega), mustR_pos, Int.toNat_natCast, List.drop_zero, List.take_length, piece_eq _ (by rw [List.length_take]; omega), bindR_val, piece_eq _ (by rw [List.length_drop]; omega), bindR_val]
        all_goals exact decide_eq_true (by omega)
      | @node xl xr sl sr l r Hl Hr q1 q2 =>
        have pl := Hl.pos
        have pr := Hr.pos
        rw [List.length_append] at hl hi c1
        simp only [node_l, node_r, Option.isNone_some, iteB_false, bindR_val, Hl.len, iteB_dec]
        by_cases c2 : i ≤ sl.length
        · rw [if_pos (by omega)]
          obtain ⟨o, p, e1, ⟨h1, e2⟩, ⟨h2, e3⟩⟩ := ih xl sl (some l) i Hl (by omega) c2 (by omega)
          obtain ⟨o', h', f1, f2⟩ := join_eq (y := some r) e3 Hr (by simp; omega)
          refine ⟨o, o', ?_, ⟨h1, ?_⟩, ⟨h', ?_⟩⟩
          · rw [e1, bindR_val, f1, bindR_val]
          · rw [List.take_append_of_le_length c2]; exact e2
          · rw [List.drop_append_of_le_length c2]; exact f2
        · rw [if_neg (by omega)]
          obtain ⟨o, p, e1, ⟨h1, e2⟩, ⟨h2, e3⟩⟩ := ih xr sr (some r) (i - sl.length) Hr (by omega) (by omega) (by omega)
          obtain ⟨o', h', f1, f2⟩ := join_eq (x := some l) Hl e2 (by simp; omega)
          refine ⟨o', p, ?_, ⟨h', ?_⟩, ⟨h2, ?_⟩⟩
          · simp only [rope_split.t2, bindR_val, node_l, node_r, Hl.len]
            rw [w64_id (by omega) (by omega), show (i : Int) - sl.length = ((i - sl.length : Nat) : Int) by omega, e1, bindR_val, f1, bindR_val]
          · rw [List.take_append, List.take_of_length_le (by omega)]; exact f2
          · rw [List.drop_append, List.drop_of_length_le (by omega), List.nil_append]; exact e3
theorem split_eq {x : Option N0} (Hx : Ro s x) (i : Nat) (hi : i ≤ s.length) (hl : s.length < 1000000000) : ∃ o p, s_rope_split (x, ((i : Int), ())) = some ((o, p), ()) ∧ Ro (s.take i) o ∧ Ro (s.drop i) p := by
  obtain ⟨h, Hx⟩ := Hx
  have bx : h < 100 := by
    cases x with
    | none => have := Hx.1; omega
    | some a => exact Tr.h_lt (h := h) (s := s) (n := a) Hx (by omega)
  exact split_spec fuel h s x i Hx (fuel_gt _ (by omega)) hi hl
end
end Go.Proofs.Ytdifekkamjoepaa.Vm.Rp
namespace Go.Proofs.Ytdifekkamjoepaa.Vm.Rp
open Go Go.Proofs.Ytdifekkamjoepaa.Vm
set_option linter.unusedVariables false

def bits (n : Nat) : Nat := if n = 0 then 0 else 1 + bits (n / 2)
termination_by n
decreasing_by omega
theorem bits_zero : bits 0 = 0 := by rw [bits]; rfl
theorem bits_pos {n : Nat} (h : 0 < n) : bits n = 1 + bits (n / 2) := by rw [bits.eq_1 n, if_neg (by omega)]
theorem lt_bits : ∀ n, n < 2 ^ bits n := by
  intro n
  induction n using Nat.strongRecOn with
  | ind n ih =>
    by_cases h : n = 0
    · subst h; rw [bits_zero]; decide
    · rw [bits_pos (by omega), Nat.pow_add, Nat.pow_one]
      have := ih (n / 2) (by omega)
      omega
section
variable {s : List UInt8} {o : Option N0}
theorem Ro.txt (H : Ro s o) : txtO o = s := by
  obtain ⟨h, H⟩ := H
  cases o with
  | none => rw [H.2]; rfl
  | some n => exact Tr.txt (h := h) H
theorem text_eq (H : Ro s o) (hs : s.length ≤ 100000000) : s_Text (o, ()) = some (s, ()) := by
  rw [Text_is]
  show mustR (decide ((txtO o).length ≤ 100000000)) (some (txtO o, ())) = _
  rw [H.txt, mustR_dec hs]
theorem all_eq (H : Ro s o) (hs : s.length < 1000000000) : ∃ h : Nat, h ≤ 4 + 2 * bits s.length ∧ s_rope_part_all (o, ()) = some (((s.length : Int), (nl s : Int), (sg s : Int), (h : Int)), ()) := by
  obtain ⟨h, H⟩ := H
  cases o with
  | none =>
    obtain ⟨rfl, rfl⟩ := H
    exact ⟨0, by omega, rfl⟩
  | some n =>
    have H : Tr h s n := H
    refine ⟨h, ?_, ?_⟩
    · have h1 := H.pow
      have h2 := lt_bits s.length
      have h3 : (h - 1) / 2 < bits s.length := by
        rcases Nat.lt_or_ge ((h - 1) / 2) (bits s.length) with h' | h'
        · exact h'
        · have := Nat.pow_le_pow_right (n := 2) (by decide) h'; omega
      omega
    · show rope_part_all.t0 (some n) = _
      simp only [rope_part_all.t0, Option.isNone_some, iteB_false, bindR_val, H.fields]
theorem len_eq (H : Ro s o) (hs : s.length < 1000000000) : s_rope_Rope_Len (o, ()) = some ((s.length : Int), ()) := by
  obtain ⟨h, _, e⟩ := all_eq H hs
  show rope_Rope_Len.t0 o = _
  simp only [rope_Rope_Len.t0, e, bindR_val]
theorem byteAt_append (s t : List UInt8) (i : Nat) : byteAt (s ++ t) i = if i < s.length then byteAt s i else byteAt t (i - s.length) := by
  unfold byteAt
  by_cases h : i < s.length
  · rw [if_pos h, List.getD_eq_getElem?_getD, List.getD_eq_getElem?_getD, List.getElem?_append_left h]
  · rw [if_neg h, List.getD_eq_getElem?_getD, List.getD_eq_getElem?_getD, List.getElem?_append_right (by omega)]
theorem at_p3 (k : Nat) : ∀ (m h i : Nat) (s : List UInt8) (n : N0), Tr h s n → h < m → i < s.length → s.length < 1000000000 → rope_Rope_At.p3 k m (i : Int) (some n) = some ((byteAt s i, true), ())
  | 0, _, _, _, _, _, h, _, _ => by omega
  | m + 1, h, i, s, n, H, hm, hi, hs => by
    show rope_Rope_At.t3 (rope_Rope_At.p3 k m) (rope_Rope_At.p4 k) i (some n) = _
    simp only [rope_Rope_At.t3, bindR_val]
    cases H with
    | leaf u1 u2 =>
      simp only [leaf_l, Option.isNone_none, Bool.not_true, iteB_false, rope_Rope_At.p4, rope_Rope_At.t4, bindR_val, leaf_t]
      rw [withinR_nat hi]
    | @node xl xr sl sr l r Hl Hr q1 q2 =>
      rw [List.length_append] at hi hs
      simp only [node_l, node_r, Option.isNone_some, Bool.not_false, iteB_true, bindR_val, Hl.len, iteB_dec, byteAt_append]
      by_cases c : i < sl.length
      · rw [if_pos (by omega), if_pos c]
        exact at_p3 k m _ i sl l Hl (by omega) c (by omega)
      · rw [if_neg (by omega), if_neg c, w64_id (by omega) (by omega), show (i : Int) - sl.length = ((i - sl.length : Nat) : Int) by omega]
        exact at_p3 k m _ _ sr r Hr (by omega) (by omega) (by omega)
theorem Ro.some_of (H : Ro s o) (hs : 0 < s.length) : ∃ h n, o = some n ∧ Tr h s n := by
  obtain ⟨h, H⟩ := H
  cases o with
  | none => rw [H.2] at hs; exact absurd hs (by decide)
  | some n => exact ⟨h, n, rfl, H⟩
theorem at_eq (H : Ro s o) (hs : s.length < 1000000000) (i : Int) : s_rope_Rope_At (o, (i, ())) = some ((if 0 ≤ i ∧ i < s.length then (byteAt s i.toNat, true) else (0, false)), ()) := by
  show rope_Rope_At.t0 (rope_Rope_At.p1 fuel) o i = _
  simp only [rope_Rope_At.t0, iteB_dec, len_eq H hs, bindR_val]
  by_cases c0 : i < 0
  · rw [if_pos c0, if_neg (by omega)]; rfl
  rw [if_neg c0]
  by_cases c1 : (s.length : Int) ≤ i
  · rw [decide_eq_true c1, if_neg (by omega)]; rfl
  rw [decide_eq_false c1, if_pos (by omega)]
  obtain ⟨h, n, rfl, T⟩ := H.some_of (by omega)
  obtain ⟨j, rfl⟩ : ∃ j : Nat, i = j := ⟨i.toNat, by omega⟩
  have := T.h_lt (by omega)
  exact at_p3 fuel fuel h j s n T (fuel_gt _ (by omega)) (by omega) hs

def cl (s : List UInt8) (i : Int) : Nat := (min (max i 0) s.length).toNat
theorem Split_eq (H : Ro s o) (hs : s.length < 1000000000) (i : Int) (h0 : 0 ≤ i) (h : i ≤ s.length) :
    ∃ a b, s_rope_Rope_Split (o, (i, ())) = some ((a, (b, 0)), ()) ∧ Ro (s.take i.toNat) a ∧ Ro (s.drop i.toNat) b := by
  obtain ⟨j, rfl⟩ : ∃ j : Nat, i = j := ⟨i.toNat, by omega⟩
  obtain ⟨a, b, e, h1, h2⟩ := split_eq H j (by omega) hs
  refine ⟨a, b, ?_, h1, h2⟩
  show rope_Rope_Split.t0 (rope_Rope_Split.p1 fuel) o j = _
  simp only [rope_Rope_Split.t0, iteB_dec, len_eq H hs, bindR_val]
  rw [if_neg (by omega), decide_eq_false (by omega)]
  simp only [rope_Rope_Split.p1, rope_Rope_Split.t1, iteB_false, rope_Rope_Split.p2, rope_Rope_Split.t2, e, bindR_val]
theorem cut_eq (H : Ro s o) (hs : s.length < 1000000000) (i j : Int) (h0 : 0 ≤ i) (h1 : i ≤ j) (h2 : j ≤ s.length) :
    ∃ a b c, s_rope_Rope_cut (o, (i, (j, ()))) = some ((a, (b, (c, 0))), ()) ∧ Ro (s.take i.toNat) a ∧ Ro ((s.take j.toNat).drop i.toNat) b ∧ Ro (s.drop j.toNat) c := by
  obtain ⟨x, c, e1, k1, k2⟩ := Split_eq H hs j (by omega) h2
  have hl : (s.take j.toNat).length = j.toNat := by rw [List.length_take]; omega
  obtain ⟨a, b, e2, k3, k4⟩ := Split_eq k1 (by omega) i h0 (by omega)
  rw [List.take_take, Nat.min_eq_left (by omega)] at k3
  refine ⟨a, b, c, ?_, k3, k4, k2⟩
  show rope_Rope_cut.t0 (rope_Rope_cut.p1 fuel) o i j = _
  simp only [rope_Rope_cut.t0, iteB_dec, len_eq H hs, bindR_val]
  rw [if_neg (by omega), if_neg (by omega), decide_eq_false (by omega)]
  simp only [rope_Rope_cut.p1, rope_Rope_cut.t1, iteB_false, rope_Rope_cut.p2, rope_Rope_cut.t2, e1, e2, bindR_val]
theorem cut_bad (H : Ro s o) (hs : s.length < 1000000000) (i j : Int) (h : ¬ (0 ≤ i ∧ i ≤ j ∧ j ≤ s.length)) : s_rope_Rope_cut (o, (i, (j, ()))) = some ((none, (none, (none, 3))), ()) := by
  show rope_Rope_cut.t0 (rope_Rope_cut.p1 fuel) o i j = _
  simp only [rope_Rope_cut.t0, iteB_dec, len_eq H hs, bindR_val]
  by_cases c : i < 0
  · rw [if_pos c]; rfl
  · rw [if_neg c]
    by_cases c2 : j < i
    · rw [if_pos c2]; rfl
    · rw [if_neg c2, decide_eq_true (by omega)]; rfl
theorem Ro.nil : Ro [] none := ⟨0, rfl, rfl⟩
theorem Slice_eq (H : Ro s o) (hs : s.length < 100000000) (i j : Int) : s_rope_Rope_Slice (o, (i, (j, ()))) = some ((if 0 ≤ i ∧ i ≤ j ∧ j ≤ s.length then ((s.take j.toNat).drop i.toNat, 0) else ([], 3)), ()) := by
  show rope_Rope_Slice.t0 o i j = _
  by_cases c : 0 ≤ i ∧ i ≤ j ∧ j ≤ s.length
  · obtain ⟨x, y, z, e, _, h2, _⟩ := cut_eq H (by omega) i j c.1 c.2.1 c.2.2
    have : ((s.take j.toNat).drop i.toNat).length ≤ s.length := by rw [List.length_drop, List.length_take]; omega
    simp only [rope_Rope_Slice.t0, e, bindR_val, text_eq h2 (by omega)]
    rw [if_pos c]
  · simp only [rope_Rope_Slice.t0, cut_bad H (by omega) i j c, bindR_val, text_eq Ro.nil (by simp)]
    rw [if_neg c]

theorem Join_p1 (k : Nat) (l : List (Option N0)) (ts : List (List UInt8)) (hl : l.length = ts.length) (hR : ∀ i, i < l.length → Ro (ts.getD i []) (l.getD i none) ∧ (ts.getD i []).length < 100000000) (hb : l.length < 1000000000) (m2 : Option N0) :
    ∀ (m i : Nat) (acc : List UInt8) (o : Option N0), l.length < m + i → i ≤ l.length → Ro acc o → acc.length ≤ 4000 →
      if (acc ++ (ts.drop i).flatten).length ≤ 4000 then ∃ o', rope_Join.p1 k m o l l.length i m2 = some ((o', 0), ()) ∧ Ro (acc ++ (ts.drop i).flatten) o' else rope_Join.p1 k m o l l.length i m2 = some ((none, 4), ())
  | 0, i, acc, o, h, hi, _, _ => by omega
  | m + 1, i, acc, o, h, hi, hA, ha => by
    have step : rope_Join.p1 k (m + 1) o l l.length i m2 = rope_Join.t1 (rope_Join.p1 k m) (rope_Join.p2 k) o l l.length i m2 := rfl
    rw [step]
    simp only [rope_Join.t1, iteB_dec]
    by_cases c : i < l.length
    · rw [if_pos (show (i : Int) < l.length by omega), withinR_nat c]
      obtain ⟨r1, r2⟩ := hR i c
      obtain ⟨x, _, e1⟩ := all_eq hA (by omega)
      have ed : ts.drop i = ts.getD i [] :: ts.drop (i + 1) := by
        rw [List.drop_eq_getElem_cons (by omega)]
        congr 1
        rw [List.getD_eq_getElem?_getD, List.getElem?_eq_getElem (by omega)]; rfl
      have ef : acc ++ (ts.drop i).flatten = (acc ++ ts.getD i []) ++ (ts.drop (i + 1)).flatten := by rw [ed, List.flatten_cons, List.append_assoc]
      rw [ef]
      simp only [e1, bindR_val, len_eq r1 (by omega)]
      rw [w64_id (n := (acc.length : Int) + (ts.getD i []).length) (by omega) (by omega)]
      by_cases c2 : acc.length + (ts.getD i []).length ≤ 4000
      · rw [if_neg (show ¬ (4000 : Int) < (acc.length : Int) + (ts.getD i []).length by omega)]
        obtain ⟨⟨x1, A1⟩, ⟨x2, A2⟩⟩ := And.intro hA r1
        obtain ⟨o', h', f1, f2⟩ := join_eq A1 A2 (by rw [List.length_append]; omega)
        simp only [f1, bindR_val]
        rw [w64_id (n := (i : Int) + 1) (by omega) (by omega)]
        exact Join_p1 k l ts hl hR hb m2 m (i + 1) _ o' (by omega) (by omega) ⟨h', f2⟩ (by rw [List.length_append]; omega)
      · rw [if_pos (show (4000 : Int) < (acc.length : Int) + (ts.getD i []).length by omega), if_neg (by rw [List.length_append, List.length_append]; omega)]
    · rw [if_neg (show ¬ (i : Int) < l.length by omega), List.drop_of_length_le (by omega)]
      simp only [List.flatten_nil, List.append_nil]
      rw [if_pos ha]
      exact ⟨o, rfl, hA⟩
theorem Join_eq (l : List (Option N0)) (ts : List (List UInt8)) (hl : l.length = ts.length) (hR : ∀ i, i < l.length → Ro (ts.getD i []) (l.getD i none) ∧ (ts.getD i []).length < 100000000) (hb : l.length < 1000000000) :
    if ts.flatten.length ≤ 4000 then ∃ o', s_rope_Join (l, ()) = some ((o', 0), ()) ∧ Ro ts.flatten o' else s_rope_Join (l, ()) = some ((none, 4), ()) := by
  have := Join_p1 fuel l ts hl hR hb none fuel 0 [] none (by have := fuel_gt l.length (by omega); omega) (by omega) Ro.nil (by simp)
  rw [List.drop_zero, List.nil_append] at this
  exact this
end
end Go.Proofs.Ytdifekkamjoepaa.Vm.Rp
namespace Go.Proofs.Ytdifekkamjoepaa.Vm.Rp
open Go Go.Proofs.Ytdifekkamjoepaa.Vm
set_option linter.unusedVariables false

def ln : List UInt8 → Nat → Nat
  | [], _ => 0
  | c :: s, k => if c = 10 then (if k = 1 then 1 else 1 + ln s (k - 1)) else 1 + ln s k
section
variable {s : List UInt8} {o : Option N0}
theorem rfollower_eq (c : UInt8) : s_ref01_Follower ((c.toNat : Int), ()) = some (isF c, ()) := by
  simp only [s_ref01_Follower, ref01_Follower.p0, ref01_Follower.t0, iteB_dec, isF]
  by_cases h0 : (128 : Int) ≤ c.toNat <;> by_cases h1 : (c.toNat : Int) ≤ 191 <;> simp [h0, h1] <;> omega
end
end Go.Proofs.Ytdifekkamjoepaa.Vm.Rp
namespace Go.Proofs.Ytdifekkamjoepaa.Vm.Rp
open Go Go.Proofs.Ytdifekkamjoepaa.Vm
set_option linter.unusedVariables false

abbrev Op := Int × Int × Int × List UInt8
structure Inv (i : Nat) (x7 : List (Option N0)) (x8 : List (List UInt8)) : Prop where
  same : x7.length = x8.length
  pos : 1 ≤ x7.length
  le : x7.length ≤ i + 1
  ro : ∀ j, j < x7.length → Ro (x8.getD j []) (x7.getD j none) ∧ (x8.getD j []).length ≤ 4000
theorem Inv.next {i : Nat} {x7 : List (Option N0)} {x8 : List (List UInt8)} (I : Inv i x7 x8) : Inv (i + 1) x7 x8 := ⟨I.same, I.pos, by have := I.le; omega, I.ro⟩

section
variable {k i : Nat} {x1 : List Op} {x7 : List (Option N0)} {x8 : List (List UInt8)} {a1 : law02_RopePlays.T1} {e want : Int} {u : List UInt8} {m5 x : Option N0} {op : Op}
/-- What is to come answers true. -/
def Next (a1 : law02_RopePlays.T1) (x1 : List Op) (i : Nat) : Prop := ∀ x7 x8 m5, Inv (i + 1) x7 x8 → a1 x1 x7 x8 ((i + 1 : Nat) : Int) m5 = some (true, ())
end
end Go.Proofs.Ytdifekkamjoepaa.Vm.Rp
