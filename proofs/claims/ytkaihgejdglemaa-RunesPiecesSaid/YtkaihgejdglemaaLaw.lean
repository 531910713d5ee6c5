/- The plain laws of signs. -/
import Derived.Test.YtkaihgejdglemaaVm2
import Derived.Test.YtkaihgejdglemaaFns
namespace Go.Proofs.Ytkaihgejdglemaa.Vm
open Go

section
variable {α β : Type}
@[simp] theorem iteB_true (a b : Option α) : iteB true a b = a := rfl
@[simp] theorem iteB_false (a b : Option α) : iteB false a b = b := rfl
@[simp] theorem mustR_true (κ : Option α) : mustR true κ = κ := rfl
@[simp] theorem bindR_val (y : β) (κ : β → Option α) : bindR (some y) κ = κ y := rfl
theorem iteB_eq (c : Bool) (a b : Option α) : iteB c a b = if c = true then a else b := by cases c <;> rfl
theorem iteB_pos {c : Bool} (h : c = true) (a b : Option α) : iteB c a b = a := by subst h; rfl
theorem iteB_neg {c : Bool} (h : c = false) (a b : Option α) : iteB c a b = b := by subst h; rfl
theorem iteB_dec {p : Prop} [Decidable p] (a b : Option α) : iteB (decide p) a b = if p then a else b := by
  by_cases h : p
  · rw [if_pos h]; exact iteB_pos (decide_eq_true h) a b
  · rw [if_neg h]; exact iteB_neg (decide_eq_false h) a b
theorem mustR_pos {c : Bool} (h : c = true) (κ : Option α) : mustR c κ = κ := by subst h; rfl
theorem mustR_dec {p : Prop} [Decidable p] (h : p) (κ : Option α) : mustR (decide p) κ = κ := mustR_pos (decide_eq_true h) κ
theorem withinR_nat {i n : Nat} (h : i < n) (κ : Nat → Option α) : withinR (i : Int) n κ = κ i := by
  unfold withinR
  rw [mustR_dec (by omega), mustR_dec (by omega)]; rfl
theorem withinR_pos {i : Int} {n : Nat} (h0 : 0 ≤ i) (h : i < n) (κ : Nat → Option α) : withinR i n κ = κ i.toNat := by
  unfold withinR
  rw [mustR_dec h0, mustR_dec h]
theorem withinR_zero {n : Nat} (h : 0 < n) (κ : Nat → Option α) : withinR 0 n κ = κ 0 := withinR_nat (i := 0) h κ
theorem notB_eq (b : Bool) : notB b = !b := rfl
@[simp] theorem notB_true : notB true = false := rfl
@[simp] theorem notB_false : notB false = true := rfl
theorem w64_id {n : Int} (h0 : -9223372036854775808 ≤ n) (h1 : n < 9223372036854775808) : w64 n = n := by
  simp [w64, IntKind.wrap, IntKind.bits, IntKind.signed]; omega
theorem w8_id {n : Int} (h0 : 0 ≤ n) (h1 : n < 256) : w8 n = n := by
  simp [w8, IntKind.wrap, IntKind.bits, IntKind.signed]; omega
theorem byteAt_range (l : List UInt8) (i : Nat) : 0 ≤ byteAt l i ∧ byteAt l i < 256 := by
  have := (List.getD l i 0).toNat_lt
  unfold byteAt; omega
theorem w64_byte (l : List UInt8) (i : Nat) : w64 (byteAt l i) = byteAt l i := by
  have := byteAt_range l i
  exact w64_id (by omega) (by omega)

/-! ### Bits -/
theorem bits_nat (x : Nat) (h : x < 18446744073709551616) : (BitVec.ofInt 64 (x : Int)).toNat = x := by
  rw [BitVec.toNat_ofInt]
  omega
theorem w64_nat {n : Nat} (h : n < 9223372036854775808) : w64 (n : Int) = n := w64_id (by omega) (by omega)
theorem bitI_or (x y : Nat) (hx : x < 9223372036854775808) (hy : y < 9223372036854775808) : bitI .or .i64 (x : Int) (y : Int) = ((x ||| y : Nat) : Int) := by
  have h : x ||| y < 2 ^ 63 := Nat.or_lt_two_pow (by omega) (by omega)
  have e : bitI .or .i64 (x : Int) (y : Int) = w64 (((BitVec.ofInt 64 (x : Int) ||| BitVec.ofInt 64 (y : Int)).toNat : Nat) : Int) := rfl
  rw [e, BitVec.toNat_or, bits_nat x (by omega), bits_nat y (by omega)]
  exact w64_nat (by omega)
theorem bitI_and (x y : Nat) (hx : x < 9223372036854775808) (hy : y < 9223372036854775808) : bitI .and .i64 (x : Int) (y : Int) = ((x &&& y : Nat) : Int) := by
  have h : x &&& y ≤ x := Nat.and_le_left
  have e : bitI .and .i64 (x : Int) (y : Int) = w64 (((BitVec.ofInt 64 (x : Int) &&& BitVec.ofInt 64 (y : Int)).toNat : Nat) : Int) := rfl
  rw [e, BitVec.toNat_and, bits_nat x (by omega), bits_nat y (by omega)]
  exact w64_nat (by omega)
theorem or_add (a b k : Nat) (h : b < 2 ^ k) : (a * 2 ^ k) ||| b = a * 2 ^ k + b := by
  rw [← Nat.shiftLeft_eq, Nat.shiftLeft_add_eq_or_of_lt h]
theorem bitI_shl_or (n m : Nat) (hn : n < 70368744177664) (hm : m < 64) : bitI .or .i64 (shlI .i64 (n : Int) 6) (m : Int) = ((64 * n + m : Nat) : Int) := by
  have e : shlI .i64 (n : Int) 6 = ((n * 2 ^ 6 : Nat) : Int) := by
    show w64 ((n : Int) * 2 ^ 6) = _
    rw [w64_id (by omega) (by omega)]; omega
  rw [e, bitI_or _ _ (by omega) (by omega), or_add n m 6 (by omega)]
  omega
theorem shrI_nat (n k : Nat) (hk : k < 64) : shrI .i64 (n : Int) (k : Int) = ((n / 2 ^ k : Nat) : Int) := by
  show (n : Int).fdiv (2 ^ min ((k : Int).toNat) 64) = _
  have : min ((k : Int).toNat) 64 = k := by omega
  rw [this, Int.fdiv_eq_ediv_of_nonneg _ (by exact Int.pow_nonneg (by omega))]
  norm_cast
theorem and_mod (n k : Nat) : n &&& (2 ^ k - 1) = n % 2 ^ k := Nat.and_two_pow_sub_one_eq_mod n k
theorem bitI_and_u8 : ∀ c : Nat, c < 256 → bitI .and .u8 (c : Int) 63 = ((c % 64 : Nat) : Int) ∧ (decide (bitI .and .u8 (c : Int) 192 = 128) = decide (128 ≤ c ∧ c ≤ 191)) := by
  decide +kernel
theorem bytesOf_nil : bytesOf [] = [] := rfl
end
end Go.Proofs.Ytkaihgejdglemaa.Vm
namespace Go.Proofs.Ytkaihgejdglemaa.Vm.Rn
open Go Go.Proofs.Ytkaihgejdglemaa.Vm
set_option linter.unusedVariables false

def sgn (n : Int) : Bool := decide (0 ≤ n) && (decide (n < 1114112) && (decide (n < 55296) || decide (57343 < n)))
def isF (c : UInt8) : Bool := decide (128 ≤ c.toNat ∧ c.toNat ≤ 191)
def enc (n : Nat) : List UInt8 :=
  if n < 128 then [UInt8.ofNat n]
  else if n < 2048 then [UInt8.ofNat (192 + n / 64), UInt8.ofNat (128 + n % 64)]
  else if n < 65536 then [UInt8.ofNat (224 + n / 4096), UInt8.ofNat (128 + n / 64 % 64), UInt8.ofNat (128 + n % 64)]
  else [UInt8.ofNat (240 + n / 262144), UInt8.ofNat (128 + n / 4096 % 64), UInt8.ofNat (128 + n / 64 % 64), UInt8.ofNat (128 + n % 64)]
def n2 (a d : UInt8) : Nat := 64 * (a.toNat - 192) + d.toNat % 64
def n3 (a d e : UInt8) : Nat := 64 * (64 * (a.toNat - 224) + d.toNat % 64) + e.toNat % 64
def n4 (a d e f : UInt8) : Nat := 64 * (64 * (64 * (a.toNat - 240) + d.toNat % 64) + e.toNat % 64) + f.toNat % 64
def no : Int × Int := (-1, 0)
def dec2 (a : UInt8) : List UInt8 → Int × Int
  | d :: _ => if (isF d && decide (128 ≤ n2 a d)) = true then ((n2 a d : Int), 2) else no
  | _ => no
def dec3 (a : UInt8) : List UInt8 → Int × Int
  | d :: e :: _ => if (isF d && isF e && decide (2048 ≤ n3 a d e) && sgn (n3 a d e)) = true then ((n3 a d e : Int), 3) else no
  | _ => no
def dec4 (a : UInt8) : List UInt8 → Int × Int
  | d :: e :: f :: _ => if (isF d && isF e && isF f && decide (65536 ≤ n4 a d e f) && sgn (n4 a d e f)) = true then ((n4 a d e f : Int), 4) else no
  | _ => no
def dec : List UInt8 → Int × Int
  | [] => no
  | a :: r => if a.toNat < 128 then ((a.toNat : Int), 1) else if a.toNat < 192 then no else if a.toNat < 224 then dec2 a r else if a.toNat < 240 then dec3 a r else if a.toNat < 248 then dec4 a r else no

theorem isSign_eq (n : Int) : s_isSign (n, ()) = some (sgn n, ()) := by
  simp only [s_isSign, isSign.p0, isSign.t0, iteB_dec, sgn]
  by_cases h0 : 0 ≤ n <;> by_cases h1 : n < 1114112 <;> by_cases h2 : n < 55296 <;> simp [h0, h1, h2]
theorem rsign_eq (n : Int) : s_rsign (n, ()) = some (sgn n, ()) := by
  simp only [s_rsign, rsign.p0, rsign.t0, iteB_dec, sgn, notB_eq]
  by_cases h0 : 0 ≤ n <;> by_cases h1 : n < 1114112 <;> rcases Int.lt_or_le n 55296 with h2 | h2 <;> rcases Int.lt_or_le 57343 n with h3 | h3 <;> simp [h0, h1, h2, h3, Int.not_le.2, Int.not_lt.2] <;> omega
theorem isFollower_eq (c : UInt8) : s_isFollower ((c.toNat : Int), ()) = some (isF c, ()) := by
  simp only [s_isFollower, isFollower.p0, isFollower.t0, isF]
  rw [(bitI_and_u8 c.toNat c.toNat_lt).2]
theorem follower_eq (c : UInt8) : s_follower ((c.toNat : Int), ()) = some (isF c, ()) := by
  simp only [s_follower, follower.p0, follower.t0, iteB_dec, isF]
  by_cases h0 : (128 : Int) ≤ c.toNat <;> by_cases h1 : (c.toNat : Int) ≤ 191 <;> simp [h0, h1] <;> omega
theorem byteAt0 (a : UInt8) (r : List UInt8) : byteAt (a :: r) 0 = (a.toNat : Int) := rfl
theorem byteAt1 (a b : UInt8) (r : List UInt8) : byteAt (a :: b :: r) 1 = (b.toNat : Int) := rfl
theorem byteAt2 (a b c : UInt8) (r : List UInt8) : byteAt (a :: b :: c :: r) 2 = (c.toNat : Int) := rfl
theorem byteAt3 (a b c d : UInt8) (r : List UInt8) : byteAt (a :: b :: c :: d :: r) 3 = (d.toNat : Int) := rfl

theorem shapeOf_eq (c : UInt8) : s_shapeOf ((c.toNat : Int), ()) = some ((if c.toNat < 128 then (1, 0, 0) else if c.toNat < 192 then (0, 0, 0) else if c.toNat < 224 then (2, 192, 128) else if c.toNat < 240 then (3, 224, 2048) else if c.toNat < 248 then (4, 240, 65536) else (0, 0, 0)), ()) := by
  have hc := c.toNat_lt
  simp only [s_shapeOf, shapeOf.p0, shapeOf.t0, shapeOf.p1, shapeOf.t1, shapeOf.p2, shapeOf.t2, shapeOf.p3, shapeOf.t3, shapeOf.p4, shapeOf.t4, iteB_dec, iteB_false]
  generalize c.toNat = x at *
  by_cases h1 : x < 128
  · rw [if_pos (by omega), if_pos h1]
  rw [if_neg (by omega), if_neg h1]
  by_cases h2 : x < 192
  · rw [if_neg (by omega), if_neg (by omega), if_neg (by omega), if_pos h2]
  rw [if_pos (by omega), if_neg h2]
  by_cases h3 : x < 224
  · rw [if_pos (by omega), if_pos h3]
  rw [if_neg (by omega), if_pos (by omega), if_neg h3]
  by_cases h4 : x < 240
  · rw [if_pos (by omega), if_pos h4]
  rw [if_neg (by omega), if_pos (by omega), if_neg h4]
  by_cases h5 : x < 248
  · rw [if_pos (by omega), if_pos h5]
  rw [if_neg (by omega), if_neg h5]

theorem p3_step (k m : Nat) (s : List UInt8) (x : Int) (i : Nat) (n : Nat) (hd le : Int) (hi : i < n) (hn : n ≤ 10) (hs : i < s.length) (h0 : 0 ≤ x) (h1 : x < 70368744177664) :
    first.p3 k (m + 1) s x i (n, hd, le) = if isF (s.getD i 0) = true then first.p3 k m s (64 * x + ((s.getD i 0).toNat % 64 : Nat)) (i + 1 : Nat) (n, hd, le) else some ((-1, 0), ()) := by
  obtain ⟨z, rfl⟩ : ∃ z : Nat, x = z := ⟨x.toNat, by omega⟩
  show first.t3 (first.p3 k m) (first.p4 k) s z i (n, hd, le) = _
  simp only [first.t3, iteB_dec]
  rw [if_pos (by omega), withinR_nat hs]
  show bindR (s_isFollower (((s.getD i 0).toNat : Int), ())) _ = _
  rw [isFollower_eq, bindR_val]
  have hb := (s.getD i 0).toNat_lt
  cases hF : isF (s.getD i 0) with
  | false => rfl
  | true =>
    simp only [notB_true, iteB_false, if_true, withinR_nat hs]
    rw [w64_id (n := (i : Int) + 1) (by omega) (by omega)]
    have e : w64 (bitI .and .u8 (byteAt s i) 63) = (((s.getD i 0).toNat % 64 : Nat) : Int) := by
      show w64 (bitI .and .u8 ((s.getD i 0).toNat : Int) 63) = _
      rw [(bitI_and_u8 _ hb).1, w64_nat (by omega)]
    rw [e, bitI_shl_or z _ (by omega) (by omega)]
    congr 1
theorem p3_end (k m : Nat) (s : List UInt8) (x : Int) (n : Nat) (hd le : Int) :
    first.p3 k (m + 1) s x n (n, hd, le) = some ((if le ≤ x ∧ sgn x = true then (x, (n : Int)) else no), ()) := by
  show first.t3 (first.p3 k m) (first.p4 k) s x n (n, hd, le) = _
  simp only [first.t3, iteB_dec]
  rw [if_neg (by omega)]
  simp only [first.p4, first.t4, first.p5, first.t5, first.p6, first.t6, iteB_dec, isSign_eq, bindR_val, iteB_true, notB_eq]
  by_cases h : x < le
  · rw [if_pos h, if_neg (by omega)]; rfl
  · rw [if_neg h]
    cases hs : sgn x with
    | true => rw [if_pos ⟨by omega, rfl⟩]; rfl
    | false => rw [if_neg (by simp)]; rfl

theorem first_eq (s : List UInt8) : s_first (s, ()) = some (dec s, ()) := by
  show first.t0 (first.p1 10) s = _
  cases s with
  | nil => rfl
  | cons a r =>
    have ha := a.toNat_lt
    simp only [first.t0, iteB_dec]
    rw [if_neg (by simp), withinR_zero (by simp), byteAt0, shapeOf_eq, bindR_val]
    simp only [dec]
    by_cases h1 : a.toNat < 128
    · rw [if_pos h1, if_pos h1]
      simp only [first.p1, first.t1, iteB_dec, first.p2, first.t2]
      rw [if_neg (by decide), if_neg (by simp; omega), withinR_zero (by simp), byteAt0, w64_id (n := (a.toNat : Int)) (by omega) (by omega), w64_id (by omega) (by omega)]
      rw [show ((1 : Int), (0 : Int), (0 : Int)) = (((1 : Nat) : Int), 0, 0) from rfl, show (1 : Int) = ((1 : Nat) : Int) from rfl, p3_end 10 9]
      have : sgn ((a.toNat : Int) - 0) = true := by simp [sgn]; omega
      rw [if_pos ⟨by omega, this⟩]; simp
    rw [if_neg h1, if_neg h1]
    by_cases h2 : a.toNat < 192
    · rw [if_pos h2, if_pos h2]; rfl
    rw [if_neg h2, if_neg h2]
    by_cases h3 : a.toNat < 224
    · rw [if_pos h3, if_pos h3]
      simp only [first.p1, first.t1, iteB_dec, first.p2, first.t2]
      rw [if_neg (by decide)]
      cases r with
      | nil => rfl
      | cons d r =>
        rw [if_neg (by simp; omega), withinR_zero (by simp), byteAt0, w64_id (n := (a.toNat : Int)) (by omega) (by omega), w64_id (by omega) (by omega)]
        rw [show ((2 : Int), (192 : Int), (128 : Int)) = (((2 : Nat) : Int), 192, 128) from rfl, show (1 : Int) = ((1 : Nat) : Int) from rfl, p3_step 10 9 _ _ 1 2 _ _ (by omega) (by omega) (by simp) (by omega) (by omega)]
        simp only [List.getD_cons_succ, List.getD_cons_zero, dec2]
        cases hF : isF d with
        | false => rfl
        | true =>
          rw [if_pos rfl, p3_end 10 8]
          have e : 64 * ((a.toNat : Int) - 192) + ((d.toNat % 64 : Nat) : Int) = (n2 a d : Nat) := by simp only [n2]; omega
          have hn : n2 a d < 2048 := by simp only [n2]; omega
          have hs : sgn (n2 a d : Nat) = true := by
            simp only [sgn, Bool.and_eq_true, Bool.or_eq_true, decide_eq_true_eq]; omega
          rw [e, hs]
          by_cases hl : 128 ≤ n2 a d
          · rw [if_pos ⟨by omega, rfl⟩, if_pos (by simp [hl])]; rfl
          · rw [if_neg (fun h => by have := h.1; omega), if_neg (by simp [hl])]
    rw [if_neg h3, if_neg h3]
    by_cases h4 : a.toNat < 240
    · rw [if_pos h4, if_pos h4]
      simp only [first.p1, first.t1, iteB_dec, first.p2, first.t2]
      rw [if_neg (by decide)]
      match r with
      | [] => rfl
      | [d] => rfl
      | d :: e :: r =>
        rw [if_neg (by simp; omega), withinR_zero (by simp), byteAt0, w64_id (n := (a.toNat : Int)) (by omega) (by omega), w64_id (by omega) (by omega)]
        rw [show ((3 : Int), (224 : Int), (2048 : Int)) = (((3 : Nat) : Int), 224, 2048) from rfl, show (1 : Int) = ((1 : Nat) : Int) from rfl, p3_step 10 9 _ _ 1 3 _ _ (by omega) (by omega) (by simp) (by omega) (by omega)]
        simp only [List.getD_cons_succ, List.getD_cons_zero, dec3]
        cases hF : isF d with
        | false => rfl
        | true =>
          rw [if_pos rfl, p3_step 10 8 _ _ 2 3 _ _ (by omega) (by omega) (by simp) (by omega) (by omega)]
          simp only [List.getD_cons_succ, List.getD_cons_zero]
          cases hE : isF e with
          | false => rfl
          | true =>
            rw [if_pos rfl, p3_end 10 7]
            have e1 : 64 * (64 * ((a.toNat : Int) - 224) + ((d.toNat % 64 : Nat) : Int)) + ((e.toNat % 64 : Nat) : Int) = (n3 a d e : Nat) := by simp only [n3]; omega
            rw [e1]
            by_cases hl : 2048 ≤ n3 a d e <;> cases hs : sgn (n3 a d e : Nat) <;> simp [hl] <;> omega
    rw [if_neg h4, if_neg h4]
    by_cases h5 : a.toNat < 248
    · rw [if_pos h5, if_pos h5]
      simp only [first.p1, first.t1, iteB_dec, first.p2, first.t2]
      rw [if_neg (by decide)]
      match r with
      | [] => rfl
      | [d] => rfl
      | [d, e] => rfl
      | d :: e :: f :: r =>
        rw [if_neg (by simp; omega), withinR_zero (by simp), byteAt0, w64_id (n := (a.toNat : Int)) (by omega) (by omega), w64_id (by omega) (by omega)]
        rw [show ((4 : Int), (240 : Int), (65536 : Int)) = (((4 : Nat) : Int), 240, 65536) from rfl, show (1 : Int) = ((1 : Nat) : Int) from rfl, p3_step 10 9 _ _ 1 4 _ _ (by omega) (by omega) (by simp) (by omega) (by omega)]
        simp only [List.getD_cons_succ, List.getD_cons_zero, dec4]
        cases hF : isF d with
        | false => rfl
        | true =>
          rw [if_pos rfl, p3_step 10 8 _ _ 2 4 _ _ (by omega) (by omega) (by simp) (by omega) (by omega)]
          simp only [List.getD_cons_succ, List.getD_cons_zero]
          cases hE : isF e with
          | false => rfl
          | true =>
            rw [if_pos rfl, p3_step 10 7 _ _ 3 4 _ _ (by omega) (by omega) (by simp) (by omega) (by omega)]
            simp only [List.getD_cons_succ, List.getD_cons_zero]
            cases hG : isF f with
            | false => rfl
            | true =>
              rw [if_pos rfl, p3_end 10 6]
              have e1 : 64 * (64 * (64 * ((a.toNat : Int) - 240) + ((d.toNat % 64 : Nat) : Int)) + ((e.toNat % 64 : Nat) : Int)) + ((f.toNat % 64 : Nat) : Int) = (n4 a d e f : Nat) := by simp only [n4]; omega
              rw [e1]
              by_cases hl : 65536 ≤ n4 a d e f <;> cases hs : sgn (n4 a d e f : Nat) <;> simp [hl] <;> omega
    rw [if_neg h5, if_neg h5]; rfl
end Go.Proofs.Ytkaihgejdglemaa.Vm.Rn
namespace Go.Proofs.Ytkaihgejdglemaa.Vm.Rn
open Go Go.Proofs.Ytkaihgejdglemaa.Vm
set_option linter.unusedVariables false

theorem sgn_nat {n : Int} (h : sgn n = true) : ∃ m : Nat, n = m ∧ m < 1114112 ∧ (m < 55296 ∨ 57343 < m) := by
  simp only [sgn, Bool.and_eq_true, Bool.or_eq_true, decide_eq_true_eq] at h
  exact ⟨n.toNat, by omega, by omega, by omega⟩
theorem or192 (n : Nat) (h : n < 64) : bitI .or .i64 192 (n : Int) = ((192 + n : Nat) : Int) := by
  rw [show (192 : Int) = ((192 : Nat) : Int) from rfl, bitI_or _ _ (by omega) (by omega), show (192 : Nat) = 3 * 2 ^ 6 from rfl, or_add 3 n 6 (by omega)]
theorem or128 (n : Nat) (h : n < 64) : bitI .or .i64 128 (n : Int) = ((128 + n : Nat) : Int) := by
  rw [show (128 : Int) = ((128 : Nat) : Int) from rfl, bitI_or _ _ (by omega) (by omega), show (128 : Nat) = 2 * 2 ^ 6 from rfl, or_add 2 n 6 (by omega)]
theorem or224 (n : Nat) (h : n < 32) : bitI .or .i64 224 (n : Int) = ((224 + n : Nat) : Int) := by
  rw [show (224 : Int) = ((224 : Nat) : Int) from rfl, bitI_or _ _ (by omega) (by omega), show (224 : Nat) = 7 * 2 ^ 5 from rfl, or_add 7 n 5 (by omega)]
theorem or240 (n : Nat) (h : n < 16) : bitI .or .i64 240 (n : Int) = ((240 + n : Nat) : Int) := by
  rw [show (240 : Int) = ((240 : Nat) : Int) from rfl, bitI_or _ _ (by omega) (by omega), show (240 : Nat) = 15 * 2 ^ 4 from rfl, or_add 15 n 4 (by omega)]
theorem and63 (n : Nat) (h : n < 9223372036854775808) : bitI .and .i64 (n : Int) 63 = ((n % 64 : Nat) : Int) := by
  rw [show (63 : Int) = ((63 : Nat) : Int) from rfl, bitI_and _ _ h (by omega), show (63 : Nat) = 2 ^ 6 - 1 from rfl, and_mod]
theorem shr6 (n : Nat) : shrI .i64 (n : Int) 6 = ((n / 64 : Nat) : Int) := shrI_nat n 6 (by omega)
theorem shr12 (n : Nat) : shrI .i64 (n : Int) 12 = ((n / 4096 : Nat) : Int) := shrI_nat n 12 (by omega)
theorem shr18 (n : Nat) : shrI .i64 (n : Int) 18 = ((n / 262144 : Nat) : Int) := shrI_nat n 18 (by omega)
theorem w8_nat {n : Nat} (h : n < 256) : w8 (n : Int) = n := w8_id (by omega) (by omega)

theorem bytes_eq (n : Int) : s_bytes (n, ()) = some (if sgn n = true then enc n.toNat else [], ()) := by
  show bytes.t0 n = _
  simp only [bytes.t0, isSign_eq, bindR_val]
  cases hs : sgn n with
  | false => rfl
  | true =>
    obtain ⟨m, rfl, h1, h2⟩ := sgn_nat hs
    simp only [notB_true, iteB_false, iteB_dec, if_true, Int.toNat_natCast, enc]
    by_cases c1 : m < 128
    · rw [if_pos (by omega), if_pos c1, w8_nat (by omega)]; rfl
    rw [if_neg (by omega), if_neg c1]
    by_cases c2 : m < 2048
    · rw [if_pos (by omega), if_pos c2, shr6, and63 _ (by omega), or192 _ (by omega), or128 _ (by omega), w8_nat (by omega), w8_nat (by omega)]; rfl
    rw [if_neg (by omega), if_neg c2]
    by_cases c3 : m < 65536
    · rw [if_pos (by omega), if_pos c3, shr6, shr12, and63 _ (by omega), and63 _ (by omega), or224 _ (by omega), or128 _ (by omega), or128 _ (by omega), w8_nat (by omega), w8_nat (by omega), w8_nat (by omega)]; rfl
    rw [if_neg (by omega), if_neg c3, shr6, shr12, shr18, and63 _ (by omega), and63 _ (by omega), and63 _ (by omega), or240 _ (by omega), or128 _ (by omega), or128 _ (by omega), or128 _ (by omega), w8_nat (by omega), w8_nat (by omega), w8_nat (by omega), w8_nat (by omega)]
    have : m / 4096 % 64 = m / 4096 % 64 := rfl
    rfl

theorem tdiv_nat (n k : Nat) : Int.tdiv (n : Int) (k : Int) = ((n / k : Nat) : Int) := rfl
theorem tmod_nat (n k : Nat) : Int.tmod (n : Int) (k : Int) = ((n % k : Nat) : Int) := rfl
theorem add_nat (n k : Nat) : (n : Int) + (k : Int) = ((n + k : Nat) : Int) := rfl
theorem rbytes_eq (n : Int) : s_rbytes (n, ()) = some (if sgn n = true then enc n.toNat else [], ()) := by
  show rbytes.t0 n = _
  simp only [rbytes.t0, rsign_eq, bindR_val]
  cases hs : sgn n with
  | false => rfl
  | true =>
    obtain ⟨m, rfl, h1, h2⟩ := sgn_nat hs
    simp only [notB_true, iteB_false, iteB_dec, if_true, Int.toNat_natCast, enc]
    have a1 : w64 (Int.tdiv (m : Int) 64) = ((m / 64 : Nat) : Int) := w64_nat (n := m / 64) (by omega)
    have a2 : w64 (Int.tdiv (m : Int) 4096) = ((m / 4096 : Nat) : Int) := w64_nat (n := m / 4096) (by omega)
    have a3 : w64 (Int.tdiv (m : Int) 262144) = ((m / 262144 : Nat) : Int) := w64_nat (n := m / 262144) (by omega)
    have b1 : ∀ x : Nat, Int.tmod (x : Int) 64 = ((x % 64 : Nat) : Int) := fun x => rfl
    have c : ∀ (x y : Nat), x + y < 256 → w8 (w64 ((x : Int) + (y : Int))) = ((x + y : Nat) : Int) := fun x y h => by
      rw [w64_id (by omega) (by omega), w8_id (by omega) (by omega)]; omega
    have c192 := fun y => c 192 y
    have c128 := fun y => c 128 y
    have c224 := fun y => c 224 y
    have c240 := fun y => c 240 y
    simp only [Int.cast_ofNat_Int] at c192 c128 c224 c240
    by_cases d1 : m < 128
    · rw [if_pos (by omega), if_pos d1, w8_nat (by omega)]; rfl
    rw [if_neg (by omega), if_neg d1]
    by_cases d2 : m < 2048
    · rw [if_pos (by omega), if_pos d2, a1, b1, c192 _ (by omega), c128 _ (by omega)]; rfl
    rw [if_neg (by omega), if_neg d2]
    by_cases d3 : m < 65536
    · rw [if_pos (by omega), if_pos d3, a1, a2, b1, b1, c224 _ (by omega), c128 _ (by omega), c128 _ (by omega)]; rfl
    rw [if_neg (by omega), if_neg d3, a1, a2, a3, b1, b1, b1, c240 _ (by omega), c128 _ (by omega), c128 _ (by omega), c128 _ (by omega)]
    rfl

/-! ### Signs' bytes -/
theorem toNat_ofNat (n : Nat) (h : n < 256) : (UInt8.ofNat n).toNat = n := by
  rw [UInt8.toNat_ofNat']; omega
theorem isF_ofNat (n : Nat) (h : n < 64) : isF (UInt8.ofNat (128 + n)) = true := by
  unfold isF; rw [toNat_ofNat _ (by omega)]; simp; omega
theorem sgn_of (m : Nat) (h1 : m < 1114112) (h2 : m < 55296 ∨ 57343 < m) : sgn m = true := by
  simp only [sgn, Bool.and_eq_true, Bool.or_eq_true, decide_eq_true_eq]; omega
theorem dec_enc (m : Nat) (h1 : m < 1114112) (h2 : m < 55296 ∨ 57343 < m) (s : List UInt8) : dec (enc m ++ s) = ((m : Int), ((enc m).length : Int)) := by
  unfold enc
  by_cases d1 : m < 128
  · rw [if_pos d1]
    simp only [List.cons_append, List.nil_append, dec, toNat_ofNat m (by omega)]
    rw [if_pos d1]; rfl
  rw [if_neg d1]
  by_cases d2 : m < 2048
  · rw [if_pos d2]
    simp only [List.cons_append, List.nil_append, dec, toNat_ofNat (192 + m / 64) (by omega), dec2, isF_ofNat _ (Nat.mod_lt m (by omega : 0 < 64))]
    have e : n2 (UInt8.ofNat (192 + m / 64)) (UInt8.ofNat (128 + m % 64)) = m := by
      unfold n2; rw [toNat_ofNat _ (by omega), toNat_ofNat _ (by omega)]; omega
    rw [if_neg (by omega), if_neg (by omega), if_pos (by omega), e, if_pos (by simp; omega)]; rfl
  rw [if_neg d2]
  by_cases d3 : m < 65536
  · rw [if_pos d3]
    simp only [List.cons_append, List.nil_append, dec, toNat_ofNat (224 + m / 4096) (by omega), dec3, isF_ofNat _ (Nat.mod_lt m (by omega : 0 < 64)), isF_ofNat _ (Nat.mod_lt (m / 64) (by omega : 0 < 64))]
    have e : n3 (UInt8.ofNat (224 + m / 4096)) (UInt8.ofNat (128 + m / 64 % 64)) (UInt8.ofNat (128 + m % 64)) = m := by
      unfold n3; rw [toNat_ofNat _ (by omega), toNat_ofNat _ (by omega), toNat_ofNat _ (by omega)]; omega
    rw [if_neg (by omega), if_neg (by omega), if_neg (by omega), if_pos (by omega), e, if_pos (by simp [sgn_of m h1 h2]; omega)]; rfl
  rw [if_neg d3]
  simp only [List.cons_append, List.nil_append, dec, toNat_ofNat (240 + m / 262144) (by omega), dec4, isF_ofNat _ (Nat.mod_lt m (by omega : 0 < 64)), isF_ofNat _ (Nat.mod_lt (m / 64) (by omega : 0 < 64)), isF_ofNat _ (Nat.mod_lt (m / 4096) (by omega : 0 < 64))]
  have e : n4 (UInt8.ofNat (240 + m / 262144)) (UInt8.ofNat (128 + m / 4096 % 64)) (UInt8.ofNat (128 + m / 64 % 64)) (UInt8.ofNat (128 + m % 64)) = m := by
    unfold n4; rw [toNat_ofNat _ (by omega), toNat_ofNat _ (by omega), toNat_ofNat _ (by omega), toNat_ofNat _ (by omega)]; omega
  rw [if_neg (by omega), if_neg (by omega), if_neg (by omega), if_neg (by omega), if_pos (by omega), e, if_pos (by simp [sgn_of m h1 h2]; omega)]; rfl

/-- What is read is a sign, and its bytes stand there. -/
theorem ext8 {a b : UInt8} (h : a.toNat = b.toNat) : a = b := UInt8.toNat_inj.1 h
theorem isF_iff {d : UInt8} : isF d = true ↔ 128 ≤ d.toNat ∧ d.toNat ≤ 191 := by unfold isF; simp
theorem dec_spec (s : List UInt8) : (dec s = no) ∨ ∃ (m : Nat) (r : List UInt8), dec s = ((m : Int), ((enc m).length : Int)) ∧ s = enc m ++ r ∧ m < 1114112 ∧ (m < 55296 ∨ 57343 < m) := by
  cases s with
  | nil => exact .inl rfl
  | cons a r =>
    have ha := a.toNat_lt
    simp only [dec]
    by_cases h1 : a.toNat < 128
    · rw [if_pos h1]
      refine .inr ⟨a.toNat, r, ?_, ?_, by omega, by omega⟩
      · simp [enc, h1]
      · simp [enc, h1]
    rw [if_neg h1]
    by_cases h2 : a.toNat < 192
    · rw [if_pos h2]; exact .inl rfl
    rw [if_neg h2]
    by_cases h3 : a.toNat < 224
    · rw [if_pos h3]
      cases r with
      | nil => exact .inl rfl
      | cons d r =>
        simp only [dec2]
        by_cases hc : (isF d && decide (128 ≤ n2 a d)) = true
        · rw [if_pos hc]
          simp only [Bool.and_eq_true, decide_eq_true_eq, isF_iff] at hc
          obtain ⟨hd, hl⟩ := hc
          have hn : n2 a d < 2048 := by unfold n2; omega
          have e : enc (n2 a d) = [a, d] := by
            unfold enc
            rw [if_neg (by omega), if_pos hn]
            have k1 : UInt8.ofNat (192 + n2 a d / 64) = a := ext8 (by rw [toNat_ofNat _ (by omega)]; unfold n2; omega)
            have k2 : UInt8.ofNat (128 + n2 a d % 64) = d := ext8 (by rw [toNat_ofNat _ (by omega)]; unfold n2; omega)
            rw [k1, k2]
          exact .inr ⟨n2 a d, r, by rw [e]; rfl, by rw [e]; rfl, by omega, by omega⟩
        · rw [if_neg hc]; exact .inl rfl
    rw [if_neg h3]
    by_cases h4 : a.toNat < 240
    · rw [if_pos h4]
      match r with
      | [] => exact .inl rfl
      | [d] => exact .inl rfl
      | d :: e :: r =>
        simp only [dec3]
        by_cases hc : (isF d && isF e && decide (2048 ≤ n3 a d e) && sgn (n3 a d e)) = true
        · rw [if_pos hc]
          simp only [Bool.and_eq_true, decide_eq_true_eq, isF_iff] at hc
          obtain ⟨⟨⟨hd, he⟩, hl⟩, hs⟩ := hc
          obtain ⟨m, hm, g1, g2⟩ := sgn_nat hs
          obtain rfl : n3 a d e = m := by omega
          have hn : n3 a d e < 65536 := by unfold n3; omega
          have en : enc (n3 a d e) = [a, d, e] := by
            unfold enc
            rw [if_neg (by omega), if_neg (by omega), if_pos hn]
            have k1 : UInt8.ofNat (224 + n3 a d e / 4096) = a := ext8 (by rw [toNat_ofNat _ (by omega)]; unfold n3; omega)
            have k2 : UInt8.ofNat (128 + n3 a d e / 64 % 64) = d := ext8 (by rw [toNat_ofNat _ (by omega)]; unfold n3; omega)
            have k3 : UInt8.ofNat (128 + n3 a d e % 64) = e := ext8 (by rw [toNat_ofNat _ (by omega)]; unfold n3; omega)
            rw [k1, k2, k3]
          exact .inr ⟨n3 a d e, r, by rw [en]; rfl, by rw [en]; rfl, g1, g2⟩
        · rw [if_neg hc]; exact .inl rfl
    rw [if_neg h4]
    by_cases h5 : a.toNat < 248
    · rw [if_pos h5]
      match r with
      | [] => exact .inl rfl
      | [d] => exact .inl rfl
      | [d, e] => exact .inl rfl
      | d :: e :: f :: r =>
        simp only [dec4]
        by_cases hc : (isF d && isF e && isF f && decide (65536 ≤ n4 a d e f) && sgn (n4 a d e f)) = true
        · rw [if_pos hc]
          simp only [Bool.and_eq_true, decide_eq_true_eq, isF_iff] at hc
          obtain ⟨⟨⟨⟨hd, he⟩, hf⟩, hl⟩, hs⟩ := hc
          obtain ⟨m, hm, g1, g2⟩ := sgn_nat hs
          obtain rfl : n4 a d e f = m := by omega
          have en : enc (n4 a d e f) = [a, d, e, f] := by
            unfold enc
            rw [if_neg (by omega), if_neg (by omega), if_neg (by omega)]
            have k1 : UInt8.ofNat (240 + n4 a d e f / 262144) = a := ext8 (by rw [toNat_ofNat _ (by omega)]; unfold n4; omega)
            have k2 : UInt8.ofNat (128 + n4 a d e f / 4096 % 64) = d := ext8 (by rw [toNat_ofNat _ (by omega)]; unfold n4; omega)
            have k3 : UInt8.ofNat (128 + n4 a d e f / 64 % 64) = e := ext8 (by rw [toNat_ofNat _ (by omega)]; unfold n4; omega)
            have k4 : UInt8.ofNat (128 + n4 a d e f % 64) = f := ext8 (by rw [toNat_ofNat _ (by omega)]; unfold n4; omega)
            rw [k1, k2, k3, k4]
          exact .inr ⟨n4 a d e f, r, by rw [en]; rfl, by rw [en]; rfl, g1, g2⟩
        · rw [if_neg hc]; exact .inl rfl
    rw [if_neg h5]; exact .inl rfl
theorem enc_len (m : Nat) : 1 ≤ (enc m).length ∧ (enc m).length ≤ 4 := by
  unfold enc; split <;> (try split) <;> (try split) <;> simp
end Go.Proofs.Ytkaihgejdglemaa.Vm.Rn
namespace Go.Proofs.Ytkaihgejdglemaa.Vm.Rn
open Go Go.Proofs.Ytkaihgejdglemaa.Vm
set_option linter.unusedVariables false

def b0 (s : List UInt8) (i : Nat) : Int := ((s.getD i 0).toNat : Int)
theorem b0_range (s : List UInt8) (i : Nat) : 0 ≤ b0 s i ∧ b0 s i < 256 := by
  have := (s.getD i 0).toNat_lt; unfold b0; omega
def cond (s : List UInt8) (k : Nat) (n f : Int) : Prop := 0 ≤ f ∧ sgn n = true ∧ enc n.toNat = s.take k
instance (s : List UInt8) (k : Nat) (n f : Int) : Decidable (cond s k n f) := inferInstanceAs (Decidable (_ ∧ _ ∧ _))

theorem rp6 (k : Nat) (a1 : rfirst.T1) (s : List UInt8) (x4 : Nat) (x5 x8 : Int) (h : x4 ≤ s.length) (h4 : x4 < 10) :
    rfirst.p6 k a1 s x4 x5 x8 = if cond s x4 x5 x8 then some ((x5, (x4 : Int)), ()) else a1 s (x4 + 1 : Nat) := by
  have e9 : rfirst.p9 k a1 s x4 = a1 s (x4 + 1 : Nat) := by
    show a1 s (w64 ((x4 : Int) + 1)) = _
    rw [w64_id (by omega) (by omega)]; rfl
  show rfirst.t6 (rfirst.p8 k a1) s x4 x5 x8 = _
  have e8 : ∀ b, rfirst.p8 k a1 s x4 x5 b = if b = true then some ((x5, (x4 : Int)), ()) else a1 s (x4 + 1 : Nat) := fun b => by
    show iteB b (some ((x5, (x4 : Int)), ())) (rfirst.p9 k a1 s x4) = _
    rw [e9, iteB_eq]
  simp only [rfirst.t6, rsign_eq, bindR_val, iteB_dec, rbytes_eq, e8, cond]
  by_cases h0 : 0 ≤ x8
  · rw [if_pos h0]
    by_cases hs : sgn x5 = true
    · rw [iteB_pos hs, mustR_dec (by omega), mustR_dec (by omega)]
      simp only [hs, if_true, Int.toNat_natCast, List.drop_zero, decide_eq_true_eq, true_and, h0]
    · rw [iteB_neg (by simpa using hs)]; simp [hs]
  · rw [if_neg h0]; simp [h0]
theorem rp7_step (k m : Nat) (a1 : rfirst.T1) (s : List UInt8) (x4 : Nat) (x5 x8 : Int) (i : Nat) (hi : i < x4) (h4 : x4 < 10) (hs : x4 ≤ s.length) (h0 : -1000000000 ≤ x5) (h1 : x5 ≤ 1000000000) :
    rfirst.p7 k a1 (m + 1) s x4 x5 x8 i = rfirst.p7 k a1 m s x4 (64 * x5 + b0 s i % 64) x8 (i + 1 : Nat) := by
  have hb := b0_range s i
  show rfirst.t7 (rfirst.p7 k a1 m) (rfirst.p6 k a1) s x4 x5 x8 i = _
  simp only [rfirst.t7, iteB_dec]
  rw [if_pos (by omega), withinR_nat (by omega)]
  have e : Int.tmod (byteAt s i) 64 = b0 s i % 64 := rfl
  rw [e, w64_id (n := b0 s i % 64) (by omega) (by omega), w64_id (n := 64 * x5) (by omega) (by omega), w64_id (by omega) (by omega), w64_id (by omega) (by omega)]; rfl
theorem rp7_end (k m : Nat) (a1 : rfirst.T1) (s : List UInt8) (x4 : Nat) (x5 x8 : Int) : rfirst.p7 k a1 (m + 1) s x4 x5 x8 x4 = rfirst.p6 k a1 s x4 x5 x8 := by
  show rfirst.t7 (rfirst.p7 k a1 m) (rfirst.p6 k a1) s x4 x5 x8 x4 = _
  simp only [rfirst.t7, iteB_dec]
  rw [if_neg (by omega)]
theorem rp4 (k : Nat) (a1 : rfirst.T1) (s : List UInt8) (x4 : Nat) (h4 : x4 < 10) (hs : x4 ≤ s.length) : ∀ (m i : Nat) (x5 : Int), x4 < m + i → i ≤ x4 → rfirst.p4 k a1 m s x4 x5 i = rfirst.p5 k a1 s x4
  | 0, i, x5, h, hi => by omega
  | m + 1, i, x5, h, hi => by
    show rfirst.t4 (rfirst.p4 k a1 m) (rfirst.p5 k a1) s x4 x5 i = _
    simp only [rfirst.t4, iteB_dec]
    by_cases hlt : i < x4
    · rw [if_pos (by omega), withinR_nat (by omega), w64_id (n := (i : Int) + 1) (by omega) (by omega)]
      exact rp4 k a1 s x4 h4 hs m (i + 1) _ (by omega) (by omega)
    · rw [if_neg (by omega)]
def v1 (s : List UInt8) : Int := b0 s 0
def v2 (s : List UInt8) : Int := 64 * (b0 s 0 - 192) + b0 s 1 % 64
def v3 (s : List UInt8) : Int := 64 * (64 * (b0 s 0 - 224) + b0 s 1 % 64) + b0 s 2 % 64
def v4 (s : List UInt8) : Int := 64 * (64 * (64 * (b0 s 0 - 240) + b0 s 1 % 64) + b0 s 2 % 64) + b0 s 3 % 64
theorem rp5_pre (s : List UInt8) : w64 (byteAt s 0) = b0 s 0 := w64_byte s 0
theorem rp5_1 (a1 : rfirst.T1) (s : List UInt8) (h : 1 ≤ s.length) : rfirst.p5 10 a1 s 1 = if cond s 1 (v1 s) (b0 s 0) then some ((v1 s, 1), ()) else a1 s 2 := by
  have hb := b0_range s 0
  show rfirst.t5 (rfirst.p6 10 a1) (rfirst.p7 10 a1 10) s 1 = _
  simp only [rfirst.t5, iteB_dec]
  rw [withinR_pos (by omega) (by decide), withinR_zero (by omega), if_pos trivial, withinR_zero (by omega), rp5_pre]
  show rfirst.p6 10 a1 s (1 : Nat) (b0 s 0) (w64 (b0 s 0 - 0)) = _
  rw [w64_id (by omega) (by omega)]
  exact (rp6 10 a1 s 1 (v1 s) (b0 s 0 - 0) h (by omega)).trans (by simp)
theorem rp5_2 (a1 : rfirst.T1) (s : List UInt8) (h : 2 ≤ s.length) : rfirst.p5 10 a1 s 2 = if cond s 2 (v2 s) (b0 s 0 - 192) then some ((v2 s, 2), ()) else a1 s 3 := by
  have hb := b0_range s 0
  have hb1 := b0_range s 1
  show rfirst.t5 (rfirst.p6 10 a1) (rfirst.p7 10 a1 10) s 2 = _
  simp only [rfirst.t5, iteB_dec]
  rw [withinR_pos (by omega) (by decide), withinR_zero (by omega), if_neg (by omega), rp5_pre]
  show rfirst.p7 10 a1 10 s (2 : Nat) (w64 (b0 s 0 - 192)) (w64 (b0 s 0 - 192)) (1 : Nat) = _
  rw [w64_id (by omega) (by omega), rp7_step 10 9 a1 s 2 _ _ 1 (by omega) (by omega) h (by omega) (by omega), rp7_end 10 8]
  exact rp6 10 a1 s 2 (v2 s) (b0 s 0 - 192) h (by omega)
theorem rp5_3 (a1 : rfirst.T1) (s : List UInt8) (h : 3 ≤ s.length) : rfirst.p5 10 a1 s 3 = if cond s 3 (v3 s) (b0 s 0 - 224) then some ((v3 s, 3), ()) else a1 s 4 := by
  have hb := b0_range s 0
  have hb1 := b0_range s 1
  have hb2 := b0_range s 2
  show rfirst.t5 (rfirst.p6 10 a1) (rfirst.p7 10 a1 10) s 3 = _
  simp only [rfirst.t5, iteB_dec]
  rw [withinR_pos (by omega) (by decide), withinR_zero (by omega), if_neg (by omega), rp5_pre]
  show rfirst.p7 10 a1 10 s (3 : Nat) (w64 (b0 s 0 - 224)) (w64 (b0 s 0 - 224)) (1 : Nat) = _
  rw [w64_id (by omega) (by omega), rp7_step 10 9 a1 s 3 _ _ 1 (by omega) (by omega) h (by omega) (by omega), rp7_step 10 8 a1 s 3 _ _ 2 (by omega) (by omega) h (by omega) (by omega), rp7_end 10 7]
  exact rp6 10 a1 s 3 (v3 s) (b0 s 0 - 224) h (by omega)
theorem rp5_4 (a1 : rfirst.T1) (s : List UInt8) (h : 4 ≤ s.length) : rfirst.p5 10 a1 s 4 = if cond s 4 (v4 s) (b0 s 0 - 240) then some ((v4 s, 4), ()) else a1 s 5 := by
  have hb := b0_range s 0
  have hb1 := b0_range s 1
  have hb2 := b0_range s 2
  have hb3 := b0_range s 3
  show rfirst.t5 (rfirst.p6 10 a1) (rfirst.p7 10 a1 10) s 4 = _
  simp only [rfirst.t5, iteB_dec]
  rw [withinR_pos (by omega) (by decide), withinR_zero (by omega), if_neg (by omega), rp5_pre]
  show rfirst.p7 10 a1 10 s (4 : Nat) (w64 (b0 s 0 - 240)) (w64 (b0 s 0 - 240)) (1 : Nat) = _
  rw [w64_id (by omega) (by omega), rp7_step 10 9 a1 s 4 _ _ 1 (by omega) (by omega) h (by omega) (by omega), rp7_step 10 8 a1 s 4 _ _ 2 (by omega) (by omega) h (by omega) (by omega), rp7_step 10 7 a1 s 4 _ _ 3 (by omega) (by omega) h (by omega) (by omega), rp7_end 10 6]
  exact rp6 10 a1 s 4 (v4 s) (b0 s 0 - 240) h (by omega)

theorem rp1 (m : Nat) (s : List UInt8) (x4 : Nat) (h : 1 ≤ x4) : rfirst.p1 10 (m + 1) s x4 = if x4 ≤ 4 ∧ x4 ≤ s.length then rfirst.p5 10 (rfirst.p1 10 m) s x4 else some (no, ()) := by
  show rfirst.t1 (rfirst.p2 10 (rfirst.p1 10 m)) (rfirst.p3 10) s x4 = _
  simp only [rfirst.t1, iteB_dec]
  by_cases h4 : x4 ≤ 4
  · rw [if_pos (by omega)]
    by_cases hs : x4 ≤ s.length
    · rw [if_pos (by omega), if_pos ⟨h4, hs⟩]
      exact rp4 10 (rfirst.p1 10 m) s x4 (by omega) hs 10 0 0 (by omega) (by omega)
    · rw [if_neg (by omega), if_neg (by omega)]; rfl
  · rw [if_neg (by omega), if_neg (by omega)]; rfl

theorem cond_dec {s : List UInt8} {k : Nat} {n f : Int} (hk : k ≤ s.length) (h : cond s k n f) : dec s = (n, (k : Int)) := by
  obtain ⟨_, hs, he⟩ := h
  obtain ⟨m, rfl, h1, h2⟩ := sgn_nat hs
  rw [Int.toNat_natCast] at he
  have hl : (enc m).length = k := by rw [he, List.length_take]; omega
  have hsplit : s = enc m ++ s.drop k := by rw [he]; exact (List.take_append_drop k s).symm
  rw [hsplit, dec_enc m h1 h2, hl]
theorem getD_app (a : UInt8) (l : List UInt8) (i : Nat) : b0 (a :: l) (i + 1) = b0 l i := rfl
theorem b00 (a : UInt8) (l : List UInt8) : b0 (a :: l) 0 = (a.toNat : Int) := rfl
theorem b01 (a b : UInt8) (l : List UInt8) : b0 (a :: b :: l) 1 = (b.toNat : Int) := rfl
theorem b02 (a b c : UInt8) (l : List UInt8) : b0 (a :: b :: c :: l) 2 = (c.toNat : Int) := rfl
theorem b03 (a b c d : UInt8) (l : List UInt8) : b0 (a :: b :: c :: d :: l) 3 = (d.toNat : Int) := rfl

/-- The reference's first sign. -/
theorem rfirst_eq (s : List UInt8) : s_rfirst (s, ()) = some (dec s, ()) := by
  show rfirst.p1 10 10 s (1 : Nat) = _
  have hnot : ∀ {k : Nat} {n f : Int}, k ≤ s.length → 1 ≤ k → dec s = no → ¬ cond s k n f := fun hk h1 hd hc => by
    rw [cond_dec hk hc] at hd
    have := congrArg Prod.snd hd
    simp only [no] at this; omega
  rcases dec_spec s with hd | ⟨m, r, hd, hs, h1, h2⟩
  · rw [hd, rp1 9 s 1 (by omega)]
    by_cases c1 : 1 ≤ s.length
    · rw [if_pos ⟨by omega, c1⟩]
      rw [show ((1 : Nat) : Int) = 1 from rfl, rp5_1 _ s c1, if_neg (hnot c1 (by omega) hd)]
      rw [show (2 : Int) = ((2 : Nat) : Int) from rfl, rp1 8 s 2 (by omega)]
      by_cases c2 : 2 ≤ s.length
      · rw [if_pos ⟨by omega, c2⟩, show ((2 : Nat) : Int) = 2 from rfl, rp5_2 _ s c2, if_neg (hnot c2 (by omega) hd)]
        rw [show (3 : Int) = ((3 : Nat) : Int) from rfl, rp1 7 s 3 (by omega)]
        by_cases c3 : 3 ≤ s.length
        · rw [if_pos ⟨by omega, c3⟩, show ((3 : Nat) : Int) = 3 from rfl, rp5_3 _ s c3, if_neg (hnot c3 (by omega) hd)]
          rw [show (4 : Int) = ((4 : Nat) : Int) from rfl, rp1 6 s 4 (by omega)]
          by_cases c4 : 4 ≤ s.length
          · rw [if_pos ⟨by omega, c4⟩, show ((4 : Nat) : Int) = 4 from rfl, rp5_4 _ s c4, if_neg (hnot c4 (by omega) hd)]
            rw [show (5 : Int) = ((5 : Nat) : Int) from rfl, rp1 5 s 5 (by omega), if_neg (by omega)]
          · rw [if_neg (by omega)]
        · rw [if_neg (by omega)]
      · rw [if_neg (by omega)]
    · rw [if_neg (by omega)]
  · have hk := enc_len m
    have hlen : (enc m).length ≤ s.length := by rw [hs, List.length_append]; omega
    have hother : ∀ {k : Nat} {n f : Int}, k ≤ s.length → k ≠ (enc m).length → ¬ cond s k n f := fun hk hne hc => by
      rw [cond_dec hk hc] at hd
      have := congrArg Prod.snd hd
      simp only at this; omega
    have htake : s.take (enc m).length = enc m := by rw [hs]; simp
    have hsg := sgn_of m h1 h2
    rw [hd, rp1 9 s 1 (by omega), if_pos ⟨by omega, by omega⟩, show ((1 : Nat) : Int) = 1 from rfl, rp5_1 _ s (by omega)]
    by_cases d1 : m < 128
    · have e : enc m = [UInt8.ofNat m] := by simp [enc, d1]
      have ev : v1 s = m := by rw [hs, e]; show b0 (UInt8.ofNat m :: r) 0 = _; rw [b00, toNat_ofNat _ (by omega)]
      rw [e] at htake ⊢
      rw [ev, if_pos ⟨(b0_range s 0).1, hsg, by rw [Int.toNat_natCast, e]; exact htake.symm⟩]; rfl
    have el1 : (enc m).length ≠ 1 := by unfold enc; rw [if_neg d1]; split <;> (try split) <;> simp
    rw [if_neg (hother (by omega) (by omega)), show (2 : Int) = ((2 : Nat) : Int) from rfl, rp1 8 s 2 (by omega), if_pos ⟨by omega, by omega⟩, show ((2 : Nat) : Int) = 2 from rfl, rp5_2 _ s (by omega)]
    by_cases d2 : m < 2048
    · have e : enc m = [UInt8.ofNat (192 + m / 64), UInt8.ofNat (128 + m % 64)] := by simp [enc, d1, d2]
      have e0 : b0 s 0 = (192 + m / 64 : Nat) := by rw [hs, e]; show b0 (_ :: _) 0 = _; rw [b00, toNat_ofNat _ (by omega)]
      have e1 : b0 s 1 = (128 + m % 64 : Nat) := by rw [hs, e]; show b0 (_ :: _ :: r) 1 = _; rw [b01, toNat_ofNat _ (by omega)]
      have ev : v2 s = m := by unfold v2; rw [e0, e1]; omega
      rw [e] at htake ⊢
      rw [ev, if_pos ⟨by rw [e0]; omega, hsg, by rw [Int.toNat_natCast, e]; exact htake.symm⟩]; rfl
    have el2 : (enc m).length ≠ 2 := by unfold enc; rw [if_neg d1, if_neg d2]; split <;> simp
    rw [if_neg (hother (by omega) (by omega)), show (3 : Int) = ((3 : Nat) : Int) from rfl, rp1 7 s 3 (by omega), if_pos ⟨by omega, by omega⟩, show ((3 : Nat) : Int) = 3 from rfl, rp5_3 _ s (by omega)]
    by_cases d3 : m < 65536
    · have e : enc m = [UInt8.ofNat (224 + m / 4096), UInt8.ofNat (128 + m / 64 % 64), UInt8.ofNat (128 + m % 64)] := by simp [enc, d1, d2, d3]
      have e0 : b0 s 0 = (224 + m / 4096 : Nat) := by rw [hs, e]; show b0 (_ :: _) 0 = _; rw [b00, toNat_ofNat _ (by omega)]
      have e1 : b0 s 1 = (128 + m / 64 % 64 : Nat) := by rw [hs, e]; show b0 (_ :: _ :: _) 1 = _; rw [b01, toNat_ofNat _ (by omega)]
      have e2 : b0 s 2 = (128 + m % 64 : Nat) := by rw [hs, e]; show b0 (_ :: _ :: _ :: r) 2 = _; rw [b02, toNat_ofNat _ (by omega)]
      have ev : v3 s = m := by unfold v3; rw [e0, e1, e2]; omega
      rw [e] at htake ⊢
      rw [ev, if_pos ⟨by rw [e0]; omega, hsg, by rw [Int.toNat_natCast, e]; exact htake.symm⟩]; rfl
    have el3 : (enc m).length ≠ 3 := by unfold enc; rw [if_neg d1, if_neg d2, if_neg d3]; simp
    rw [if_neg (hother (by omega) (by omega)), show (4 : Int) = ((4 : Nat) : Int) from rfl, rp1 6 s 4 (by omega), if_pos ⟨by omega, by omega⟩, show ((4 : Nat) : Int) = 4 from rfl, rp5_4 _ s (by omega)]
    have e : enc m = [UInt8.ofNat (240 + m / 262144), UInt8.ofNat (128 + m / 4096 % 64), UInt8.ofNat (128 + m / 64 % 64), UInt8.ofNat (128 + m % 64)] := by simp [enc, d1, d2, d3]
    have e0 : b0 s 0 = (240 + m / 262144 : Nat) := by rw [hs, e]; show b0 (_ :: _) 0 = _; rw [b00, toNat_ofNat _ (by omega)]
    have e1 : b0 s 1 = (128 + m / 4096 % 64 : Nat) := by rw [hs, e]; show b0 (_ :: _ :: _) 1 = _; rw [b01, toNat_ofNat _ (by omega)]
    have e2 : b0 s 2 = (128 + m / 64 % 64 : Nat) := by rw [hs, e]; show b0 (_ :: _ :: _ :: _) 2 = _; rw [b02, toNat_ofNat _ (by omega)]
    have e3 : b0 s 3 = (128 + m % 64 : Nat) := by rw [hs, e]; show b0 (_ :: _ :: _ :: _ :: r) 3 = _; rw [b03, toNat_ofNat _ (by omega)]
    have ev : v4 s = m := by unfold v4; rw [e0, e1, e2, e3]; omega
    rw [e] at htake ⊢
    rw [ev, if_pos ⟨by rw [e0]; omega, hsg, by rw [Int.toNat_natCast, e]; exact htake.symm⟩]; rfl
end Go.Proofs.Ytkaihgejdglemaa.Vm.Rn
namespace Go.Proofs.Ytkaihgejdglemaa.Vm.Rn
open Go Go.Proofs.Ytkaihgejdglemaa.Vm
set_option linter.unusedVariables false

/-! ### Whole texts -/
def wh : Nat → List UInt8 → Bool
  | 0, _ => false
  | _ + 1, [] => true
  | n + 1, s => if (dec s).2 = 0 then false else wh n (s.drop (dec s).2.toNat)
theorem dec_len (s : List UInt8) : (dec s).2 = 0 ∨ ∃ k : Nat, (dec s).2 = k ∧ 1 ≤ k ∧ k ≤ s.length := by
  rcases dec_spec s with h | ⟨m, r, h, hs, _, _⟩
  · left; rw [h]; rfl
  · right
    have := enc_len m
    refine ⟨(enc m).length, by rw [h], this.1, by rw [hs, List.length_append]; omega⟩
theorem rnext_eq (s : List UInt8) : s_rnext (s, ()) = some (decide (0 < (dec s).2), (s.drop (dec s).2.toNat, ())) := by
  show rnext.t0 s = _
  simp only [rnext.t0, first_eq, bindR_val]
  rcases dec_len s with h | ⟨k, h, h1, h2⟩
  · rw [h, mustR_dec (by omega), mustR_dec (by omega)]; simp
  · rw [h, mustR_dec (by omega), mustR_dec (by omega)]; simp
theorem whole_p1 (k : Nat) : ∀ (m : Nat) (s : List UInt8), s.length < m → whole.p1 k m s = some (wh m s, ())
  | 0, s, h => by omega
  | m + 1, s, h => by
    show whole.t1 (whole.p1 k m) (whole.p2 k) s = _
    simp only [whole.t1, iteB_eq, rnext_eq, bindR_val]
    cases s with
    | nil => rfl
    | cons a r =>
      rw [if_pos (by simp)]
      simp only [wh]
      rcases dec_len (a :: r) with hd | ⟨j, hd, h1, h2⟩
      · rw [hd]; rfl
      · rw [hd, if_neg (by simp [notB_eq]; omega), if_neg (by omega)]
        refine whole_p1 k m _ ?_
        rw [List.length_drop]; simp only [List.length_cons, Int.toNat_natCast] at h h2 ⊢; omega
theorem rwhole_p1 (k : Nat) : ∀ (m : Nat) (s : List UInt8), s.length < m → rwhole.p1 k m s = some (wh m s, ())
  | 0, s, h => by omega
  | m + 1, s, h => by
    show rwhole.t1 (rwhole.p1 k m) (rwhole.p2 k) s = _
    simp only [rwhole.t1, iteB_dec, rfirst_eq, bindR_val]
    cases s with
    | nil => rfl
    | cons a r =>
      rw [if_pos (by simp only [List.length_cons]; omega)]
      simp only [wh]
      rcases dec_len (a :: r) with hd | ⟨j, hd, h1, h2⟩
      · rw [hd]; rfl
      · rw [hd, if_neg (by omega), if_neg (by omega), mustR_dec (by omega), mustR_dec (by omega), List.take_length]
        refine rwhole_p1 k m _ ?_
        rw [List.length_drop]; simp only [List.length_cons, Int.toNat_natCast] at h h2 ⊢; omega
theorem whole_eq (s : List UInt8) : s_whole (s, ()) = some (wh (s.length + 10) s, ()) := whole_p1 (s.length + 10) (s.length + 10) s (by omega)
theorem rwhole_eq (s : List UInt8) : s_rwhole (s, ()) = some (wh (s.length + 10) s, ()) := rwhole_p1 (s.length + 10) (s.length + 10) s (by omega)

/-! ### Counts -/
def cnt (s : List UInt8) : Nat := (s.filter (fun c => !isF c)).length
theorem cnt_cons (a : UInt8) (s : List UInt8) : cnt (a :: s) = (if isF a = true then 0 else 1) + cnt s := by
  unfold cnt
  cases h : isF a <;> simp [h]; omega
theorem cnt_append (s t : List UInt8) : cnt (s ++ t) = cnt s + cnt t := by simp [cnt]
theorem cnt_le (s : List UInt8) : cnt s ≤ s.length := List.length_filter_le _ _
theorem drop_cons (s : List UInt8) (i : Nat) (h : i < s.length) : s.drop i = s.getD i 0 :: s.drop (i + 1) := by
  rw [List.drop_eq_getElem_cons h]; congr 1; simp [h]
theorem take_snoc (s : List UInt8) (i : Nat) (h : i < s.length) : s.take (i + 1) = s.take i ++ [s.getD i 0] := by
  rw [List.take_succ_eq_append_getElem h]; congr 2; simp [h]
theorem count_p1 (k : Nat) (s : List UInt8) (hs : s.length < 1000000000000) : ∀ (m i c : Nat), s.length < m + i → c ≤ i → i ≤ s.length → count.p1 k m s (c : Int) (s.length : Int) (i : Int) = some (((c + cnt (s.drop i) : Nat) : Int), ())
  | 0, i, c, h, _, _ => by omega
  | m + 1, i, c, h, hc, hi => by
    show count.t1 (count.p2 k (count.p1 k m)) (count.p3 k) s c s.length i = _
    simp only [count.t1, iteB_dec]
    by_cases hlt : i < s.length
    · rw [if_pos (by omega), withinR_nat hlt]
      show bindR (s_isFollower (((s.getD i 0).toNat : Int), ())) _ = _
      rw [isFollower_eq, bindR_val, drop_cons s i hlt, cnt_cons]
      have e : ∀ z : Nat, z ≤ i + 1 → count.p2 k (count.p1 k m) s (z : Int) (s.length : Int) (i : Int) = some (((z + cnt (s.drop (i + 1)) : Nat) : Int), ()) := fun z hz => by
        show count.p1 k m s z s.length (w64 ((i : Int) + 1)) = _
        rw [w64_id (by omega) (by omega)]
        exact count_p1 k s hs m (i + 1) z (by omega) hz (by omega)
      cases hF : isF (s.getD i 0) with
      | true => simp only [notB_true, iteB_false]; rw [e c (by omega)]; simp
      | false =>
        simp only [notB_false, iteB_true]
        rw [w64_id (n := (c : Int) + 1) (by omega) (by omega)]
        refine (e (c + 1) (by omega)).trans ?_
        simp; omega
    · rw [if_neg (by omega), List.drop_of_length_le (by omega)]; rfl
theorem count_eq (s : List UInt8) (hs : s.length < 1000000000000) : s_count (s, ()) = some ((cnt s : Int), ()) := by
  have := count_p1 (s.length + 10) s hs (s.length + 10) 0 0 (by omega) (by omega) (by omega)
  rw [List.drop_zero, Nat.zero_add] at this; exact this
theorem rcount_p1 (k : Nat) (s : List UInt8) (hs : s.length < 1000000000000) : ∀ (m i c : Nat), s.length < m + i → c ≤ i → i ≤ s.length → rcount.p1 k m s (c : Int) (i : Int) = some (((c + cnt (s.drop i) : Nat) : Int), ())
  | 0, i, c, h, _, _ => by omega
  | m + 1, i, c, h, hc, hi => by
    show rcount.t1 (rcount.p2 k (rcount.p1 k m)) (rcount.p3 k) s c i = _
    simp only [rcount.t1, iteB_dec]
    by_cases hlt : i < s.length
    · rw [if_pos (by omega), withinR_nat hlt]
      show bindR (s_follower (((s.getD i 0).toNat : Int), ())) _ = _
      rw [follower_eq, bindR_val, drop_cons s i hlt, cnt_cons]
      have e : ∀ z : Nat, z ≤ i + 1 → rcount.p2 k (rcount.p1 k m) s (z : Int) (i : Int) = some (((z + cnt (s.drop (i + 1)) : Nat) : Int), ()) := fun z hz => by
        show rcount.p1 k m s z (w64 ((i : Int) + 1)) = _
        rw [w64_id (by omega) (by omega)]
        exact rcount_p1 k s hs m (i + 1) z (by omega) hz (by omega)
      cases hF : isF (s.getD i 0) with
      | true => simp only [notB_true, iteB_false]; rw [e c (by omega)]; simp
      | false =>
        simp only [notB_false, iteB_true]
        rw [w64_id (n := (c : Int) + 1) (by omega) (by omega)]
        refine (e (c + 1) (by omega)).trans ?_
        simp; omega
    · rw [if_neg (by omega), List.drop_of_length_le (by omega)]; rfl
theorem rcount_eq (s : List UInt8) (hs : s.length < 1000000000000) : s_rcount (s, ()) = some ((cnt s : Int), ()) := by
  have := rcount_p1 (s.length + 10) s hs (s.length + 10) 0 0 (by omega) (by omega) (by omega)
  rw [List.drop_zero, Nat.zero_add] at this; exact this

/-! ### Edges -/
def edg (s : List UInt8) (i : Int) : Bool := decide (i = (s.length : Int)) || (decide (0 ≤ i) && (decide (i < (s.length : Int)) && !isF (s.getD i.toNat 0)))
theorem edge_eq (s : List UInt8) (i : Int) : s_edge (s, (i, ())) = some (edg s i, ()) := by
  show edge.t0 s i = _
  simp only [edge.t0, iteB_dec, edg]
  by_cases h : i = (s.length : Int)
  · rw [if_pos h]; simp [h]
  rw [if_neg h]
  by_cases h0 : 0 ≤ i
  · rw [if_pos h0]
    by_cases h1 : i < (s.length : Int)
    · rw [if_pos h1, withinR_pos h0 h1]
      show bindR (s_isFollower (((s.getD i.toNat 0).toNat : Int), ())) _ = _
      rw [isFollower_eq, bindR_val]; simp [h, h0, h1, notB_eq]
    · rw [if_neg h1]; simp [h, h1]
  · rw [if_neg h0]; simp [h, h0]
theorem redge_eq (s : List UInt8) (i : Int) : s_redge (s, (i, ())) = some (edg s i, ()) := by
  show redge.t0 (redge.p1 0) s i = _
  have e : ∀ b, redge.p1 0 s i b = if b = true then some (false, ()) else redge.p2 0 s i := fun b => by show iteB b _ _ = _; rw [iteB_eq]
  simp only [redge.t0, iteB_dec, e, edg]
  by_cases h0 : i < 0
  · rw [if_pos h0]; simp; omega
  rw [if_neg h0]
  by_cases h1 : (s.length : Int) < i
  · rw [if_pos (by simpa using h1)]; simp; omega
  rw [if_neg (by simpa using h1)]
  show redge.t2 s i = _
  simp only [redge.t2, iteB_dec]
  by_cases h : i = (s.length : Int)
  · rw [if_pos h]; simp [h]
  rw [if_neg h, withinR_pos (by omega) (by omega)]
  show bindR (s_follower (((s.getD i.toNat 0).toNat : Int), ())) _ = _
  rw [follower_eq, bindR_val, notB_eq, decide_eq_false h, decide_eq_true (show 0 ≤ i by omega), decide_eq_true (show i < (s.length : Int) by omega)]; simp

theorem edg_at (s : List UInt8) (i : Nat) (h : i < s.length) : edg s (i : Int) = !isF (s.getD i 0) := by
  simp only [edg, Int.toNat_natCast]
  rw [decide_eq_false (show ¬ (i : Int) = s.length by omega), decide_eq_true (show 0 ≤ (i : Int) by omega), decide_eq_true (show (i : Int) < s.length by omega)]; simp
/-- The next edge. -/
def NextIs (s : List UInt8) (i : Nat) (r : Nat) : Prop := (s.length ≤ i → r = s.length) ∧ (i < s.length → i < r ∧ r ≤ s.length ∧ edg s r = true ∧ ∀ j : Nat, i < j → j < r → edg s j = false)
theorem NextIs.unique {s : List UInt8} {i r r' : Nat} (h : NextIs s i r) (h' : NextIs s i r') : r = r' := by
  rcases Nat.lt_or_ge i s.length with hi | hi
  · obtain ⟨a1, a2, a3, a4⟩ := h.2 hi
    obtain ⟨b1, b2, b3, b4⟩ := h'.2 hi
    rcases Nat.lt_trichotomy r r' with c | c | c
    · have := b4 r a1 c; rw [a3] at this; cases this
    · exact c
    · have := a4 r' b1 c; rw [b3] at this; cases this
  · rw [h.1 hi, h'.1 hi]
theorem edg_len (s : List UInt8) : edg s (s.length : Int) = true := by simp [edg]
theorem next_p1 (k : Nat) (s : List UInt8) (hs : s.length < 1000000000000) : ∀ (m i : Nat), s.length < m + i → 0 < m → ∃ r : Nat, next.p1 k m s (i : Int) = some ((r : Int), ()) ∧ NextIs s i r
  | 0, i, h, hm => by omega
  | m + 1, i, h, hm => by
    show ∃ r : Nat, next.t1 (next.p1 k m) (next.p2 k) s i = _ ∧ _
    simp only [next.t1, iteB_dec]
    by_cases hlt : i < s.length
    · rw [if_pos (by omega), w64_id (n := (i : Int) + 1) (by omega) (by omega), edge_eq, bindR_val]
      cases he : edg s ((i : Int) + 1) with
      | true =>
        refine ⟨i + 1, rfl, fun h => by omega, fun _ => ⟨by omega, by omega, he, fun j h1 h2 => by omega⟩⟩
      | false =>
        obtain ⟨r, h1, h2⟩ := next_p1 k s hs m (i + 1) (by omega) (by omega)
        refine ⟨r, h1, fun h => by omega, fun _ => ?_⟩
        rcases Nat.lt_or_ge (i + 1) s.length with c | c
        · obtain ⟨a1, a2, a3, a4⟩ := h2.2 c
          refine ⟨by omega, a2, a3, fun j h1 h2 => ?_⟩
          by_cases hj : j = i + 1
          · subst hj; exact he
          · exact a4 j (by omega) h2
        · have hi1 : i + 1 = s.length := by omega
          have := edg_len s
          rw [← hi1] at this
          rw [show ((i : Int) + 1) = ((i + 1 : Nat) : Int) from rfl, this] at he; cases he
    · rw [if_neg (by omega)]
      exact ⟨s.length, rfl, fun _ => rfl, fun h => absurd h hlt⟩
theorem next_eq (s : List UInt8) (hs : s.length < 1000000000000) (i : Nat) : ∃ r : Nat, s_next (s, ((i : Int), ())) = some ((r : Int), ()) ∧ NextIs s i r := by
  obtain ⟨r, h1, h2⟩ := next_p1 (s.length + 10) s hs (s.length + 10) i (by omega) (by omega)
  refine ⟨r, ?_, h2⟩
  show next.t0 (next.p1 (s.length + 10) (s.length + 10)) s i = _
  simp only [next.t0, iteB_dec]
  rw [if_neg (by omega)]; exact h1
theorem next_neg (s : List UInt8) (i : Int) (h : i < 0) : s_next (s, (i, ())) = some (0, ()) := by
  show next.t0 (next.p1 (s.length + 10) (s.length + 10)) s i = _
  simp only [next.t0, iteB_dec]
  rw [if_pos h]
/-- The edge before. -/
def BackIs (s : List UInt8) (i : Nat) (r : Nat) : Prop := (r < i ∧ edg s r = true ∧ ∀ j : Nat, r < j → j < i → edg s j = false) ∨ (r = 0 ∧ ∀ j : Nat, j < i → edg s j = false)
theorem BackIs.unique {s : List UInt8} {i r r' : Nat} (h : BackIs s i r) (h' : BackIs s i r') : r = r' := by
  rcases h with ⟨a1, a2, a3⟩ | ⟨a1, a2⟩ <;> rcases h' with ⟨b1, b2, b3⟩ | ⟨b1, b2⟩
  · rcases Nat.lt_trichotomy r r' with c | c | c
    · have := a3 r' c b1; rw [b2] at this; cases this
    · exact c
    · have := b3 r c a1; rw [a2] at this; cases this
  · have := b2 r a1; rw [a2] at this; cases this
  · have := a2 r' b1; rw [b2] at this; cases this
  · omega
theorem back_p1 (k : Nat) (s : List UInt8) (hs : s.length < 1000000000000) : ∀ (m i : Nat), i < m → i ≤ s.length → ∃ r : Nat, back.p1 k m s (i : Int) = some ((r : Int), ()) ∧ BackIs s i r
  | 0, i, h, _ => by omega
  | m + 1, i, h, hi => by
    show ∃ r : Nat, back.t1 (back.p1 k m) (back.p2 k) s i = _ ∧ _
    simp only [back.t1, iteB_dec]
    by_cases h0 : i = 0
    · subst h0
      rw [if_neg (by omega)]
      exact ⟨0, rfl, .inr ⟨rfl, fun j h => by omega⟩⟩
    · obtain ⟨j, rfl⟩ : ∃ j, i = j + 1 := ⟨i - 1, by omega⟩
      rw [if_pos (by omega), w64_id (n := ((j + 1 : Nat) : Int) - 1) (by omega) (by omega), show ((j + 1 : Nat) : Int) - 1 = (j : Int) by omega, edge_eq, bindR_val]
      cases he : edg s (j : Int) with
      | true => exact ⟨j, rfl, .inl ⟨by omega, he, fun x h1 h2 => by omega⟩⟩
      | false =>
        obtain ⟨r, h1, h2⟩ := back_p1 k s hs m j (by omega) (by omega)
        refine ⟨r, h1, ?_⟩
        rcases h2 with ⟨a1, a2, a3⟩ | ⟨a1, a2⟩
        · refine .inl ⟨by omega, a2, fun x h1 h2 => ?_⟩
          by_cases hx : x = j
          · subst hx; exact he
          · exact a3 x h1 (by omega)
        · refine .inr ⟨a1, fun x h => ?_⟩
          by_cases hx : x = j
          · subst hx; exact he
          · exact a2 x (by omega)
theorem back_eq (s : List UInt8) (hs : s.length < 1000000000000) (i : Nat) (hi : i ≤ s.length) : ∃ r : Nat, s_back (s, ((i : Int), ())) = some ((r : Int), ()) ∧ BackIs s i r := by
  obtain ⟨r, h1, h2⟩ := back_p1 (s.length + 10) s hs (s.length + 10) i (by omega) hi
  refine ⟨r, ?_, h2⟩
  show back.t0 (back.p1 (s.length + 10) (s.length + 10)) s i = _
  simp only [back.t0, iteB_dec]
  rw [if_neg (by omega)]; exact h1
theorem back_big (s : List UInt8) (i : Int) (h : (s.length : Int) < i) : s_back (s, (i, ())) = some ((s.length : Int), ()) := by
  show back.t0 (back.p1 (s.length + 10) (s.length + 10)) s i = _
  simp only [back.t0, iteB_dec]
  rw [if_pos h]
theorem back_neg (s : List UInt8) (i : Int) (h : i ≤ 0) : s_back (s, (i, ())) = some (0, ()) := by
  show back.t0 (back.p1 (s.length + 10) (s.length + 10)) s i = _
  simp only [back.t0, iteB_dec]
  rw [if_neg (by omega)]
  show back.t1 (back.p1 (s.length + 10) (s.length + 9)) (back.p2 (s.length + 10)) s i = _
  simp only [back.t1, iteB_dec]
  rw [if_neg (by omega)]; rfl
/-- Where a text is cut. -/
theorem cut_p1 (k : Nat) (s : List UInt8) (hs : s.length < 1000000000000) : ∀ (m i : Nat) (n : Nat), s.length < m + i → i ≤ s.length → n < 9223372036854775808 → ∃ r : Nat, cut.p1 k m s (n : Int) (s.length : Int) (i : Int) = some ((r : Int), ()) ∧
      i ≤ r ∧ r ≤ s.length ∧ edg s r = true ∧ cnt ((s.drop i).take (r - i)) ≤ n ∧ (r = s.length ∨ cnt ((s.drop i).take (r - i)) = n)
  | 0, i, n, h, _, _ => by omega
  | m + 1, i, n, h, hi, hn => by
    show ∃ r : Nat, cut.t1 (cut.p2 k (cut.p1 k m)) (cut.p3 k) s n s.length i = _ ∧ _
    simp only [cut.t1, iteB_dec]
    by_cases hlt : i < s.length
    · rw [if_pos (by omega), withinR_nat hlt]
      have e : ∀ z : Nat, cut.p2 k (cut.p1 k m) s (z : Int) (s.length : Int) (i : Int) = cut.p1 k m s (z : Int) (s.length : Int) ((i + 1 : Nat) : Int) := fun z => by
        show cut.p1 k m s z s.length (w64 ((i : Int) + 1)) = _
        rw [w64_id (by omega) (by omega)]; rfl
      have hh : byteAt s i = (((s.getD i 0).toNat : Nat) : Int) := rfl
      rw [hh, isFollower_eq, bindR_val, e]
      have ht : ∀ r, i < r → (s.drop i).take (r - i) = s.getD i 0 :: (s.drop (i + 1)).take (r - (i + 1)) := fun r hr => by
        rw [drop_cons s i hlt, show r - i = (r - (i + 1)) + 1 by omega, List.take_succ_cons]
      cases hF : isF (s.getD i 0) with
      | true =>
        obtain ⟨r, h1, h2, h3, h4, h5, h6⟩ := cut_p1 k s hs m (i + 1) n (by omega) (by omega) hn
        refine ⟨r, h1, by omega, h3, h4, ?_, ?_⟩
        · rw [ht r (by omega), cnt_cons, if_pos hF]; omega
        · rw [ht r (by omega), cnt_cons, if_pos hF]; rcases h6 with h6 | h6
          · exact .inl h6
          · right; omega
      | false =>
        simp only [iteB_false]
        by_cases h0 : n = 0
        · subst h0
          rw [if_pos (show ((0 : Nat) : Int) = 0 from rfl)]
          refine ⟨i, rfl, by omega, by omega, ?_, by simp [cnt], by right; simp [cnt]⟩
          rw [edg_at s i hlt, hF]; rfl
        · obtain ⟨z, rfl⟩ : ∃ z, n = z + 1 := ⟨n - 1, by omega⟩
          have e1 : w64 (((z + 1 : Nat) : Int) - 1) = (z : Int) := by rw [w64_id (by omega) (by omega)]; omega
          rw [if_neg (by omega), e1, e]
          obtain ⟨r, h1, h2, h3, h4, h5, h6⟩ := cut_p1 k s hs m (i + 1) z (by omega) (by omega) (by omega)
          refine ⟨r, h1, by omega, h3, h4, ?_, ?_⟩
          · rw [ht r (by omega), cnt_cons, if_neg (by rw [hF]; decide)]; omega
          · rw [ht r (by omega), cnt_cons, if_neg (by rw [hF]; decide)]; rcases h6 with h6 | h6
            · exact .inl h6
            · right; omega
    · rw [if_neg (by omega)]
      refine ⟨s.length, rfl, hi, Nat.le_refl _, edg_len s, ?_, .inl rfl⟩
      rw [List.drop_of_length_le (by omega)]; simp [cnt]
theorem cut_eq (s : List UInt8) (hs : s.length < 1000000000000) (n : Nat) (hn : n < 9223372036854775808) : ∃ r : Nat, s_cut (s, ((n : Int), ())) = some ((r : Int), ()) ∧ r ≤ s.length ∧ edg s r = true ∧ cnt (s.take r) ≤ n ∧ (r = s.length ∨ cnt (s.take r) = n) := by
  obtain ⟨r, h1, h2, h3, h4, h5, h6⟩ := cut_p1 (s.length + 10) s hs (s.length + 10) 0 n (by omega) (by omega) hn
  refine ⟨r, ?_, h3, h4, by simpa using h5, by simpa using h6⟩
  show cut.t0 (cut.p1 (s.length + 10) (s.length + 10)) s n = _
  simp only [cut.t0, iteB_dec]
  rw [if_neg (by omega)]; exact h1
theorem cut_neg (s : List UInt8) (n : Int) (h : n < 0) : s_cut (s, (n, ())) = some (0, ()) := by
  show cut.t0 (cut.p1 (s.length + 10) (s.length + 10)) s n = _
  simp only [cut.t0, iteB_dec]
  rw [if_pos h]
theorem alive_eq : s_alive () = some (true, ()) := by
  show alive.t0 = _
  simp only [alive.t0, first_eq, whole_eq, edge_eq, bindR_val, count_eq [97, 195, 169] (by decide), bytes_eq]
  rw [show wh (List.length [(195 : UInt8), 169] + 10) [195, 169] = true by decide +kernel, show wh (List.length [(237 : UInt8), 160, 128] + 10) [237, 160, 128] = false by decide +kernel]
  rw [show dec [195, 169] = (233, 2) by decide +kernel]
  rw [show s_next ([97, 195, 169], 1, ()) = some (3, ()) by decide +kernel, show s_back ([97, 195, 169], 3, ()) = some (1, ()) by decide +kernel]
  decide +kernel
end Go.Proofs.Ytkaihgejdglemaa.Vm.Rn
namespace Go.Proofs.Ytkaihgejdglemaa.Vm.Rn
open Go Go.Proofs.Ytkaihgejdglemaa.Vm
set_option linter.unusedVariables false

theorem wholeLaw (s : List UInt8) (n : Int) : s_lawWhole (s, (n, ())) = some (true, ()) := by
  show lawWhole.t0 (lawWhole.p1 10) s n = _
  simp only [lawWhole.t0, alive_eq, bindR_val, notB_true, iteB_false, iteB_dec, first_eq, rfirst_eq, bytes_eq, rbytes_eq, rsign_eq]
  by_cases hl : (500 : Int) < (s.length : Int)
  · rw [if_pos hl]
  rw [if_neg hl]
  have hb : (if sgn n = true then enc n.toNat else []).length ≤ 4 := by
    split
    · exact (enc_len _).2
    · simp
  rw [mustR_dec (by omega)]
  have e2 : ∀ (a b c d : Int), a = c → b = d → lawWhole.p2 10 s n a b c d = some (true, ()) := fun a b c d h1 h2 => by
    show lawWhole.t2 s n a b c d = _
    simp only [lawWhole.t2, iteB_dec, whole_eq, rwhole_eq, bytes_eq, rbytes_eq, bindR_val, if_pos h1, if_pos h2, BEq.rfl, iteB_true]
    simp
  have e1 : ∀ (a b c d : Int), a = c → b = d → lawWhole.p1 10 s n a b c d false = some (true, ()) := fun a b c d h1 h2 => by
    show iteB false (some (false, ())) (lawWhole.p2 10 s n a b c d) = _
    rw [iteB_false]; exact e2 a b c d h1 h2
  by_cases hs : sgn n = true
  · obtain ⟨m, rfl, h1, h2⟩ := sgn_nat hs
    simp only [hs, if_true, iteB_true, Int.toNat_natCast, dec_enc m h1 h2 s, decide_true, Bool.not_true, iteB_false]
    exact e1 _ _ _ _ rfl rfl
  · rw [iteB_neg (by simpa using hs)]
    exact e1 _ _ _ _ rfl rfl

theorem countsLaw (s : List UInt8) (n : Int) (hn : n < 9223372036854775808) : s_lawCounts (s, (n, ())) = some (true, ()) := by
  show lawCounts.t0 (lawCounts.p1 10) s n = _
  simp only [lawCounts.t0, alive_eq, bindR_val, notB_true, iteB_false, iteB_dec]
  by_cases hl : (500 : Int) < (s.length : Int)
  · rw [if_pos hl]
  rw [if_neg hl]
  have hs : s.length < 1000000000000 := by omega
  by_cases h0 : n < 0
  · rw [cut_neg s n h0, bindR_val, if_neg (by decide), if_neg (by simp only; omega), redge_eq, bindR_val]
    have e : lawCounts.p1 10 s n 0 false = some (true, ()) := by
      show lawCounts.t2 s n 0 = _
      simp only [lawCounts.t2, iteB_dec, if_pos h0, if_true, count_eq s hs, rcount_eq s hs, bindR_val, decide_true, iteB_true]
    cases edg s 0
    · exact e
    · exact e
  · obtain ⟨m, rfl⟩ : ∃ m : Nat, n = m := ⟨n.toNat, by omega⟩
    obtain ⟨r, h1, h2, h3, h4, h5⟩ := cut_eq s hs m (by omega)
    rw [h1, bindR_val]
    simp only
    rw [if_neg (by omega), if_neg (by omega), redge_eq, bindR_val, h3]
    show lawCounts.t2 s m r = _
    have hr : s_rcount (s.take r, ()) = some ((cnt (s.take r) : Int), ()) := rcount_eq _ (by rw [List.length_take]; omega)
    simp only [lawCounts.t2, iteB_dec, if_neg h0, count_eq s hs, rcount_eq s hs, bindR_val, if_true, Int.toNat_natCast, List.drop_zero, hr]
    rw [mustR_dec (by omega), mustR_dec (by omega), if_pos (by omega)]
    rcases h5 with h5 | h5
    · rw [if_pos (by omega)]
    · by_cases h6 : (r : Int) = (s.length : Int)
      · rw [if_pos h6]
      · rw [if_neg h6, mustR_dec (by omega), mustR_dec (by omega), h5]; simp

/-! ### Edges -/
theorem le1 (k : Nat) (s : List UInt8) (hs : s.length < 1000000000000) (x1 : Int) (x6 : Int) : ∀ (m j : Nat) (x5 : Nat), j ≤ m → j ≤ s.length + 1 →
      ((∀ z : Nat, j ≤ z → z ≤ s.length → edg s z = true → (z : Int) ≤ x1) ∧ x5 = s.length ∨ j ≤ x5 ∧ x5 ≤ s.length ∧ edg s x5 = true ∧ x1 < x5 ∧ ∀ z : Nat, j ≤ z → z < x5 → edg s z = true → (z : Int) ≤ x1) →
      ∃ r : Nat, lawEdges.p1 k (m + 1) s x1 (x5 : Int) x6 ((j : Int) - 1) = lawEdges.p3 k s x1 (r : Int) x6 ∧
        ((∀ z : Nat, z ≤ s.length → edg s z = true → (z : Int) ≤ x1) ∧ r = s.length ∨ r ≤ s.length ∧ edg s r = true ∧ x1 < r ∧ ∀ z : Nat, z < r → edg s z = true → (z : Int) ≤ x1)
  | m, 0, x5, hm, hj, hx => by
    refine ⟨x5, ?_, ?_⟩
    · show lawEdges.t1 (lawEdges.p2 k (lawEdges.p1 k m)) (lawEdges.p3 k) s x1 x5 x6 _ = _
      simp only [lawEdges.t1, iteB_dec]
      rw [if_neg (by omega)]
    · rcases hx with ⟨h1, h2⟩ | ⟨h1, h2, h3, h4, h5⟩
      · exact .inl ⟨fun z hz he => h1 z (by omega) hz he, h2⟩
      · exact .inr ⟨h2, h3, h4, fun z hz he => h5 z (by omega) hz he⟩
  | 0, j + 1, x5, hm, hj, hx => by omega
  | m + 1, j + 1, x5, hm, hj, hx => by
    have e4 : ∀ y : Int, lawEdges.p4 k (lawEdges.p1 k (m + 1)) s x1 y x6 (j : Int) = lawEdges.p1 k (m + 1) s x1 y x6 ((j : Int) - 1) := fun y => by
      show lawEdges.p1 k (m + 1) s x1 y x6 (w64 ((j : Int) - 1)) = _
      rw [w64_id (by omega) (by omega)]
    have e2 : ∀ b, lawEdges.p2 k (lawEdges.p1 k (m + 1)) s x1 (x5 : Int) x6 (j : Int) b = if b = true then lawEdges.p1 k (m + 1) s x1 j x6 ((j : Int) - 1) else lawEdges.p1 k (m + 1) s x1 x5 x6 ((j : Int) - 1) := fun b => by
      show iteB b (lawEdges.p4 k _ s x1 j x6 j) (lawEdges.p4 k _ s x1 x5 x6 j) = _
      rw [iteB_eq, e4, e4]
    have ej : ((j + 1 : Nat) : Int) - 1 = (j : Int) := by omega
    rw [ej]
    show ∃ r : Nat, lawEdges.t1 (lawEdges.p2 k (lawEdges.p1 k (m + 1))) (lawEdges.p3 k) s x1 x5 x6 j = _ ∧ _
    simp only [lawEdges.t1, iteB_dec, redge_eq, bindR_val, e2]
    rw [if_pos (by omega)]
    have keep : (edg s j = true → (j : Int) ≤ x1) → ∃ r : Nat, lawEdges.p1 k (m + 1) s x1 (x5 : Int) x6 ((j : Int) - 1) = lawEdges.p3 k s x1 (r : Int) x6 ∧
        ((∀ z : Nat, z ≤ s.length → edg s z = true → (z : Int) ≤ x1) ∧ r = s.length ∨ r ≤ s.length ∧ edg s r = true ∧ x1 < r ∧ ∀ z : Nat, z < r → edg s z = true → (z : Int) ≤ x1) := fun hno => by
      refine le1 k s hs x1 x6 m j x5 (by omega) (by omega) ?_
      rcases hx with ⟨h1, h2⟩ | ⟨h1, h2, h3, h4, h5⟩
      · refine .inl ⟨fun z h1' h2' he => ?_, h2⟩
        by_cases hz : z = j
        · subst hz; exact hno he
        · exact h1 z (by omega) h2' he
      · refine .inr ⟨by omega, h2, h3, h4, fun z h1' h2' he => ?_⟩
        by_cases hz : z = j
        · subst hz; exact hno he
        · exact h5 z (by omega) h2' he
    cases he : edg s (j : Int) with
    | false =>
      rw [iteB_false, if_neg (by decide)]
      exact keep (fun h => by rw [he] at h; cases h)
    | true =>
      rw [iteB_true]
      by_cases hlt : x1 < (j : Int)
      · rw [if_pos (by simpa using hlt)]
        exact le1 k s hs x1 x6 m j j (by omega) (by omega) (.inr ⟨by omega, by omega, he, hlt, fun z h1 h2 _ => by omega⟩)
      · rw [if_neg (by simpa using hlt)]
        exact keep (fun _ => by omega)
theorem le5 (k : Nat) (s : List UInt8) (hs : s.length < 1000000000000) (x1 : Int) (x5 : Int) : ∀ (m j : Nat) (x6 : Nat), s.length + 1 ≤ m + j → j ≤ s.length + 1 →
      (x6 < j ∧ edg s x6 = true ∧ (x6 : Int) < x1 ∧ (∀ z : Nat, x6 < z → z < j → edg s z = true → x1 ≤ (z : Int)) ∨ x6 = 0 ∧ ∀ z : Nat, z < j → edg s z = true → x1 ≤ (z : Int)) →
      ∃ r : Nat, lawEdges.p5 k (m + 1) s x1 x5 (x6 : Int) (j : Int) = lawEdges.p7 k s x1 x5 (r : Int) ∧
        (r ≤ s.length ∧ edg s r = true ∧ (r : Int) < x1 ∧ (∀ z : Nat, r < z → z ≤ s.length → edg s z = true → x1 ≤ (z : Int)) ∨ r = 0 ∧ ∀ z : Nat, z ≤ s.length → edg s z = true → x1 ≤ (z : Int))
  | m, j, x6, hm, hj, hx => by
    by_cases hjl : j = s.length + 1
    · refine ⟨x6, ?_, ?_⟩
      · show lawEdges.t5 (lawEdges.p6 k (lawEdges.p5 k m)) (lawEdges.p7 k) s x1 x5 x6 j = _
        simp only [lawEdges.t5, iteB_dec]
        rw [if_neg (by omega)]
      · rcases hx with ⟨h1, h2, h3, h4⟩ | ⟨h1, h2⟩
        · exact .inl ⟨by omega, h2, h3, fun z h5 h6 he => h4 z h5 (by omega) he⟩
        · exact .inr ⟨h1, fun z hz he => h2 z (by omega) he⟩
    · match m, hm with
      | 0, hm => omega
      | m + 1, hm =>
      have e8 : ∀ y : Int, lawEdges.p8 k (lawEdges.p5 k (m + 1)) s x1 x5 y (j : Int) = lawEdges.p5 k (m + 1) s x1 x5 y ((j + 1 : Nat) : Int) := fun y => by
        show lawEdges.p5 k (m + 1) s x1 x5 y (w64 ((j : Int) + 1)) = _
        rw [w64_id (by omega) (by omega)]; rfl
      have e6 : ∀ b, lawEdges.p6 k (lawEdges.p5 k (m + 1)) s x1 x5 (x6 : Int) (j : Int) b = if b = true then lawEdges.p5 k (m + 1) s x1 x5 j ((j + 1 : Nat) : Int) else lawEdges.p5 k (m + 1) s x1 x5 x6 ((j + 1 : Nat) : Int) := fun b => by
        show iteB b (lawEdges.p8 k _ s x1 x5 j j) (lawEdges.p8 k _ s x1 x5 x6 j) = _
        rw [iteB_eq, e8, e8]
      show ∃ r : Nat, lawEdges.t5 (lawEdges.p6 k (lawEdges.p5 k (m + 1))) (lawEdges.p7 k) s x1 x5 x6 j = _ ∧ _
      simp only [lawEdges.t5, iteB_dec, redge_eq, bindR_val, e6]
      rw [if_pos (by omega)]
      have keep : (edg s j = true → x1 ≤ (j : Int)) → ∃ r : Nat, lawEdges.p5 k (m + 1) s x1 x5 (x6 : Int) ((j + 1 : Nat) : Int) = lawEdges.p7 k s x1 x5 (r : Int) ∧
          (r ≤ s.length ∧ edg s r = true ∧ (r : Int) < x1 ∧ (∀ z : Nat, r < z → z ≤ s.length → edg s z = true → x1 ≤ (z : Int)) ∨ r = 0 ∧ ∀ z : Nat, z ≤ s.length → edg s z = true → x1 ≤ (z : Int)) := fun hno => by
        refine le5 k s hs x1 x5 m (j + 1) x6 (by omega) (by omega) ?_
        rcases hx with ⟨h1, h2, h3, h4⟩ | ⟨h1, h2⟩
        · refine .inl ⟨by omega, h2, h3, fun z g1 g2 he => ?_⟩
          by_cases hz : z = j
          · subst hz; exact hno he
          · exact h4 z g1 (by omega) he
        · refine .inr ⟨h1, fun z g1 he => ?_⟩
          by_cases hz : z = j
          · subst hz; exact hno he
          · exact h2 z (by omega) he
      cases he : edg s (j : Int) with
      | false =>
        rw [iteB_false, if_neg (by decide)]
        exact keep (fun h => by rw [he] at h; cases h)
      | true =>
        rw [iteB_true]
        by_cases hlt : (j : Int) < x1
        · rw [if_pos (by simpa using hlt)]
          exact le5 k s hs x1 x5 m (j + 1) j (by omega) (by omega) (.inl ⟨by omega, he, hlt, fun z h1 h2 _ => by omega⟩)
        · rw [if_neg (by simpa using hlt)]
          exact keep (fun _ => by omega)

theorem edgesLaw (s : List UInt8) (i : Int) : s_lawEdges (s, (i, ())) = some (true, ()) := by
  show lawEdges.t0 (lawEdges.p1 (s.length + 10) (s.length + 10)) s i = _
  simp only [lawEdges.t0, alive_eq, bindR_val, notB_true, iteB_false, iteB_dec, edge_eq, redge_eq]
  by_cases hl : (500 : Int) < (s.length : Int)
  · rw [if_pos hl]
  rw [if_neg hl]
  have hs : s.length < 1000000000000 := by omega
  have hbeq : (!(edg s i == edg s i)) = false := by simp
  rw [hbeq, iteB_false]
  obtain ⟨r, h1, h2⟩ := le1 (s.length + 10) s hs i 0 (s.length + 9) (s.length + 1) s.length (by omega) (by omega) (.inl ⟨fun z h1 h2 => by omega, rfl⟩)
  have ej : ((s.length + 1 : Nat) : Int) - 1 = (s.length : Int) := by omega
  rw [ej] at h1
  refine h1.trans ?_
  show lawEdges.p5 (s.length + 10) (s.length + 10) s i r ((0 : Nat) : Int) ((0 : Nat) : Int) = _
  obtain ⟨q, g1, g2⟩ := le5 (s.length + 10) s hs i r (s.length + 9) 0 0 (by omega) (by omega) (.inr ⟨rfl, fun z h => by omega⟩)
  refine g1.trans ?_
  show lawEdges.t7 (lawEdges.p9 (s.length + 10)) s i r q = _
  simp only [lawEdges.t7, iteB_dec]
  have e9 : ∀ x y : Int, lawEdges.p9 (s.length + 10) s i x y = lawEdges.t9 s i x y := fun _ _ => rfl
  simp only [e9, lawEdges.t9, iteB_dec]
  by_cases h0 : i < 0
  · have hq : q = 0 := by
      rcases g2 with ⟨_, _, g3, _⟩ | ⟨g3, _⟩
      · omega
      · exact g3
    rw [if_pos h0, next_neg s i h0, bindR_val, if_pos rfl, back_neg s i (by omega), bindR_val, hq]; rfl
  · rw [if_neg h0]
    obtain ⟨m, rfl⟩ : ∃ m : Nat, i = m := ⟨i.toNat, by omega⟩
    obtain ⟨r', k1, k2⟩ := next_eq s hs m
    have hr : r' = r := by
      refine k2.unique ?_
      rcases h2 with ⟨a1, a2⟩ | ⟨a1, a2, a3, a4⟩
      · refine ⟨fun _ => a2, fun hm => ?_⟩
        have := a1 s.length (by omega) (edg_len s)
        omega
      · refine ⟨fun hm => by omega, fun hm => ⟨by omega, a1, a2, fun j g1 g2 => ?_⟩⟩
        cases hj : edg s j with
        | false => rfl
        | true => have := a4 j g2 hj; omega
    subst hr
    rw [k1, bindR_val, if_pos rfl]
    have hq : s_back (s, ((m : Int), ())) = some ((q : Int), ()) := by
      by_cases hm : m ≤ s.length
      · obtain ⟨q', k3, k4⟩ := back_eq s hs m hm
        have : q' = q := by
          refine k4.unique ?_
          rcases g2 with ⟨a1, a2, a3, a4⟩ | ⟨a1, a2⟩
          · refine .inl ⟨by omega, a2, fun j g1 g2 => ?_⟩
            cases hj : edg s j with
            | false => rfl
            | true => have := a4 j g1 (by omega) hj; omega
          · refine .inr ⟨a1, fun j g1 => ?_⟩
            cases hj : edg s j with
            | false => rfl
            | true => have := a2 j (by omega) hj; omega
        rw [k3, this]
      · rw [back_big s m (by omega)]
        have : q = s.length := by
          rcases g2 with ⟨a1, a2, a3, a4⟩ | ⟨a1, a2⟩
          · by_cases hq : q = s.length
            · exact hq
            · have := a4 s.length (by omega) (by omega) (edg_len s); omega
          · have := a2 s.length (by omega) (edg_len s); omega
        rw [this]
    rw [hq, bindR_val]; simp

/-! ### Pieces -/
def Sg (m : Nat) : Prop := m < 1114112 ∧ (m < 55296 ∨ 57343 < m)
def W (ms : List Nat) : List UInt8 := (ms.map enc).flatten
theorem W_cons (m : Nat) (ms : List Nat) : W (m :: ms) = enc m ++ W ms := rfl
theorem W_app (a b : List Nat) : W (a ++ b) = W a ++ W b := by simp [W]
theorem wh_W : ∀ (ms : List Nat) (n : Nat), (∀ m ∈ ms, Sg m) → (W ms).length < n → wh n (W ms) = true
  | [], n + 1, _, _ => rfl
  | [], 0, _, h => by simp [W] at h
  | m :: ms, 0, _, h => by omega
  | m :: ms, n + 1, hm, h => by
    have hl := enc_len m
    have hg := hm m (List.mem_cons_self)
    have hd : dec (W (m :: ms)) = ((m : Int), ((enc m).length : Int)) := by rw [W_cons]; exact dec_enc m hg.1 hg.2 _
    have hlen : (W (m :: ms)).length = (enc m).length + (W ms).length := by rw [W_cons, List.length_append]
    have hdrop : (W (m :: ms)).drop (enc m).length = W ms := by rw [W_cons]; simp
    have hne : ∃ a r, W (m :: ms) = a :: r := by
      cases hW : W (m :: ms) with
      | nil => rw [hW] at hlen; simp at hlen; omega
      | cons a r => exact ⟨a, r, rfl⟩
    obtain ⟨a, r, hW⟩ := hne
    rw [hW] at hd hdrop ⊢
    simp only [wh, hd, Int.toNat_natCast, hdrop]
    rw [if_neg (by omega)]
    exact wh_W ms n (fun x hx => hm x (List.mem_cons_of_mem _ hx)) (by omega)
theorem not_isF_lo (n : Nat) (h : n < 128) : isF (UInt8.ofNat n) = false := by
  unfold isF; rw [toNat_ofNat _ (by omega)]; simp; omega
theorem not_isF_hi (n : Nat) (h : 192 ≤ n) (h2 : n < 256) : isF (UInt8.ofNat n) = false := by
  unfold isF; rw [toNat_ofNat _ (by omega)]; simp; omega
/-- A sign's bytes: the first one is no follower, the others are. -/
theorem enc_shape (m : Nat) (h : Sg m) : ∃ a r, enc m = a :: r ∧ isF a = false ∧ ∀ x ∈ r, isF x = true := by
  obtain ⟨h1, h2⟩ := h
  unfold enc
  have f64 : ∀ n, isF (UInt8.ofNat (128 + n % 64)) = true := fun n => isF_ofNat _ (Nat.mod_lt n (by omega))
  by_cases d1 : m < 128
  · rw [if_pos d1]; exact ⟨_, [], rfl, not_isF_lo m d1, by simp⟩
  rw [if_neg d1]
  by_cases d2 : m < 2048
  · rw [if_pos d2]; exact ⟨_, _, rfl, not_isF_hi _ (by omega) (by omega), by
      intro x hx
      simp only [List.mem_cons, List.not_mem_nil, or_false] at hx
      rcases hx with rfl <;> exact f64 _⟩
  rw [if_neg d2]
  by_cases d3 : m < 65536
  · rw [if_pos d3]; exact ⟨_, _, rfl, not_isF_hi _ (by omega) (by omega), by
      intro x hx
      simp only [List.mem_cons, List.not_mem_nil, or_false] at hx
      rcases hx with rfl | rfl <;> exact f64 _⟩
  rw [if_neg d3]; exact ⟨_, _, rfl, not_isF_hi _ (by omega) (by omega), by
      intro x hx
      simp only [List.mem_cons, List.not_mem_nil, or_false] at hx
      rcases hx with rfl | rfl | rfl <;> exact f64 _⟩
theorem cnt_enc (m : Nat) (h : Sg m) : cnt (enc m) = 1 := by
  obtain ⟨a, r, e, h1, h2⟩ := enc_shape m h
  rw [e, cnt_cons, if_neg (by rw [h1]; decide)]
  have : cnt r = 0 := by
    unfold cnt
    rw [List.length_eq_zero_iff, List.filter_eq_nil_iff]
    intro x hx; rw [h2 x hx]; decide
  omega
theorem cnt_W : ∀ (ms : List Nat), (∀ m ∈ ms, Sg m) → cnt (W ms) = ms.length
  | [], _ => rfl
  | m :: ms, h => by
    rw [W_cons, cnt_append, cnt_enc m (h m List.mem_cons_self), cnt_W ms (fun x hx => h x (List.mem_cons_of_mem _ hx)), List.length_cons]; omega
theorem edge_W : ∀ (ms : List Nat) (a : Nat), (∀ m ∈ ms, Sg m) → edg (W ms) (a : Int) = true → ∃ m1 m2, ms = m1 ++ m2 ∧ a = (W m1).length
  | [], a, _, h => by
    refine ⟨[], [], rfl, ?_⟩
    simp only [edg, W, List.map_nil, List.flatten_nil, List.length_nil, Bool.or_eq_true, Bool.and_eq_true, decide_eq_true_eq] at h ⊢
    omega
  | m :: ms, a, hm, h => by
    obtain ⟨x, r, e, h1, h2⟩ := enc_shape m (hm m List.mem_cons_self)
    by_cases h0 : a = 0
    · exact ⟨[], m :: ms, rfl, by rw [h0]; rfl⟩
    have hlen : (W (m :: ms)).length = (enc m).length + (W ms).length := by rw [W_cons, List.length_append]
    have hge : (enc m).length ≤ a := by
      rcases Nat.lt_or_ge a (enc m).length with hlt | hge
      · exfalso
        rw [edg_at _ a (by omega)] at h
        have hget : (W (m :: ms)).getD a 0 = r.getD (a - 1) 0 := by
          rw [W_cons, e]
          obtain ⟨b, rfl⟩ : ∃ b, a = b + 1 := ⟨a - 1, by omega⟩
          rw [List.cons_append, List.getD_cons_succ, Nat.add_sub_cancel]
          rw [e, List.length_cons] at hlt
          simp only [List.getD_eq_getElem?_getD]
          rw [List.getElem?_append_left (by omega)]
        rw [hget] at h
        have hmem : r.getD (a - 1) 0 ∈ r := by
          rw [e, List.length_cons] at hlt
          have hb : a - 1 < r.length := by omega
          have : r.getD (a - 1) 0 = r[a - 1] := by simp [hb]
          rw [this]; exact List.getElem_mem hb
        rw [h2 _ hmem] at h; cases h
      · exact hge
    have h' : edg (W ms) ((a - (enc m).length : Nat) : Int) = true := by
      by_cases hz : a < (W (m :: ms)).length
      · rw [edg_at _ a hz] at h
        rw [edg_at _ _ (by omega)]
        have : (W (m :: ms)).getD a 0 = (W ms).getD (a - (enc m).length) 0 := by
          rw [W_cons]; simp only [List.getD_eq_getElem?_getD]; rw [List.getElem?_append_right hge]
        rw [← this]; exact h
      · have : a = (W (m :: ms)).length := by
          simp only [edg, Bool.or_eq_true, Bool.and_eq_true, decide_eq_true_eq] at h
          omega
        have : a - (enc m).length = (W ms).length := by omega
        rw [this]; exact edg_len _
    obtain ⟨m1, m2, e1, e2⟩ := edge_W ms _ (fun x hx => hm x (List.mem_cons_of_mem _ hx)) h'
    exact ⟨m :: m1, m2, by rw [e1]; rfl, by rw [W_cons, List.length_append]; omega⟩
theorem piece_W (ms : List Nat) (hm : ∀ m ∈ ms, Sg m) (a b : Nat) (hab : a ≤ b) (ha : edg (W ms) (a : Int) = true) (hb : edg (W ms) (b : Int) = true) :
    ∃ ps, (∀ m ∈ ps, Sg m) ∧ (W ms |>.take b).drop a = W ps ∧ b ≤ (W ms).length := by
  obtain ⟨m1, m2, e1, e2⟩ := edge_W ms b hm hb
  have hbl : b ≤ (W ms).length := by rw [e1, W_app, List.length_append]; omega
  have ht : (W ms).take b = W m1 := by rw [e1, W_app, e2]; simp
  have hm1 : ∀ m ∈ m1, Sg m := fun x hx => hm x (by rw [e1]; exact List.mem_append_left _ hx)
  rw [ht]
  have ha' : edg (W m1) (a : Int) = true := by
    by_cases h : a = b
    · rw [h, e2]; exact edg_len _
    · rw [edg_at _ a (by omega)] at ha
      rw [edg_at _ a (by omega)]
      have : (W ms).getD a 0 = (W m1).getD a 0 := by
        rw [e1, W_app]; simp only [List.getD_eq_getElem?_getD]; rw [List.getElem?_append_left (by omega)]
      rw [← this]; exact ha
  obtain ⟨p1, p2, f1, f2⟩ := edge_W m1 a hm1 ha'
  exact ⟨p2, fun x hx => hm1 x (by rw [f1]; exact List.mem_append_right _ hx), by rw [f1, W_app, f2]; simp, hbl⟩

theorem lp7 (k : Nat) (ms : List Nat) (hm : ∀ m ∈ ms, Sg m) (a b : Nat) (hab : a ≤ b) : lawPieces.p7 k (W ms) (a : Int) (b : Int) = some (true, ()) := by
  show lawPieces.t7 (W ms) a b = _
  simp only [lawPieces.t7, edge_eq, bindR_val, notB_eq]
  cases ha : edg (W ms) (a : Int) with
  | false => rfl
  | true =>
    cases hb : edg (W ms) (b : Int) with
    | false => rfl
    | true =>
      obtain ⟨ps, h1, h2, h3⟩ := piece_W ms hm a b hab ha hb
      simp only [Bool.not_true, iteB_false, Int.toNat_natCast]
      rw [mustR_dec (by omega), mustR_dec (by omega), mustR_dec (by omega), mustR_dec (by omega), h2, whole_eq, bindR_val, wh_W ps _ h1 (by omega)]
theorem lp3 (k : Nat) (ms : List Nat) (hm : ∀ m ∈ ms, Sg m) (hl : (W ms).length < 1000000000000) (x1 x2 : Int) (h1 : 0 ≤ x1) (h1' : x1 < 256) (h2 : 0 ≤ x2) (h2' : x2 < 256) : lawPieces.p3 k x1 x2 (W ms) (ms.length : Int) = some (true, ()) := by
  have e5 : ∀ a b : Nat, a ≤ b → lawPieces.p5 k (W ms) (ms.length : Int) (a : Int) (b : Int) = some (true, ()) := fun a b hab => by
    show lawPieces.t5 (lawPieces.p6 k) (W ms) ms.length a b = _
    simp only [lawPieces.t5, whole_eq, bindR_val, wh_W ms ((W ms).length + 10) hm (by omega), notB_true, iteB_false, count_eq _ hl, cnt_W ms hm]
    simp only [decide_true, Bool.not_true]
    exact lp7 k ms hm a b hab
  show lawPieces.t3 (lawPieces.p5 k) x1 x2 (W ms) ms.length = _
  simp only [lawPieces.t3, iteB_dec, w64_id (n := x1) (by omega) (by omega), w64_id (n := x2) (by omega) (by omega)]
  have m1 : minI x1 ((W ms).length : Int) = ((min x1.toNat (W ms).length : Nat) : Int) := by unfold minI; omega
  have m2 : minI x2 ((W ms).length : Int) = ((min x2.toNat (W ms).length : Nat) : Int) := by unfold minI; omega
  rw [m1, m2]
  split
  · exact e5 _ _ (by omega)
  · exact e5 _ _ (by omega)
theorem lp1 (k : Nat) (l : List Int) (x1 x2 : Int) (h1 : 0 ≤ x1) (h1' : x1 < 256) (h2 : 0 ≤ x2) (h2' : x2 < 256) : ∀ (m j : Nat) (ms : List Nat), 41 ≤ m + j → j ≤ 40 → (∀ m ∈ ms, Sg m) → ms.length ≤ j → (W ms).length ≤ 4 * j →
    lawPieces.p1 k m l x1 x2 (W ms) (ms.length : Int) (j : Int) = some (true, ())
  | 0, j, ms, h, hj, _, _, _ => by omega
  | m + 1, j, ms, h, hj, hm, hml, hw => by
    show lawPieces.t1 (lawPieces.p2 k (lawPieces.p1 k m)) (lawPieces.p3 k) l x1 x2 (W ms) ms.length j = _
    simp only [lawPieces.t1, iteB_dec]
    have e3 := lp3 k ms hm (by omega) x1 x2 h1 h1' h2 h2'
    by_cases hlt : (j : Int) < (l.length : Int)
    · rw [if_pos hlt]
      by_cases h40 : (j : Int) < 40
      · rw [if_pos h40]
        show lawPieces.t2 (lawPieces.p4 k (lawPieces.p1 k m)) l x1 x2 (W ms) ms.length j = _
        have e4 : ∀ (t : List UInt8) (c : Int), lawPieces.p4 k (lawPieces.p1 k m) l x1 x2 t c (j : Int) = lawPieces.p1 k m l x1 x2 t c ((j + 1 : Nat) : Int) := fun t c => by
          show lawPieces.p1 k m l x1 x2 t c (w64 ((j : Int) + 1)) = _
          rw [w64_id (by omega) (by omega)]; rfl
        simp only [lawPieces.t2, rsign_eq, bindR_val, rbytes_eq, e4]
        rw [withinR_nat (by omega)]
        by_cases hs : sgn (l.getD j 0) = true
        · obtain ⟨z, hz, g1, g2⟩ := sgn_nat hs
          have hen := enc_len z
          rw [iteB_pos hs, withinR_nat (by omega), if_pos hs, hz, Int.toNat_natCast, mustR_dec (by omega), w64_id (n := (ms.length : Int) + 1) (by omega) (by omega)]
          have hW : W ms ++ enc z = W (ms ++ [z]) := by rw [W_app]; simp [W]
          rw [hW, show ((ms.length : Int) + 1) = ((ms ++ [z]).length : Int) by simp]
          refine lp1 k l x1 x2 h1 h1' h2 h2' m (j + 1) (ms ++ [z]) (by omega) (by omega) ?_ (by simp; omega) (by rw [← hW, List.length_append]; omega)
          intro x hx
          rcases List.mem_append.1 hx with hx | hx
          · exact hm x hx
          · simp only [List.mem_singleton] at hx; subst hx; exact ⟨g1, g2⟩
        · rw [iteB_neg (by simpa using hs)]
          exact lp1 k l x1 x2 h1 h1' h2 h2' m (j + 1) ms (by omega) (by omega) hm (by omega) (by omega)
      · rw [if_neg h40]; exact e3
    · rw [if_neg hlt]; exact e3
theorem piecesLaw (l : List Int) (i k : Int) (h1 : 0 ≤ i) (h1' : i < 256) (h2 : 0 ≤ k) (h2' : k < 256) : s_lawPieces (l, (i, (k, ()))) = some (true, ()) := by
  show lawPieces.t0 (lawPieces.p1 50 50) l i k = _
  simp only [lawPieces.t0, alive_eq, bindR_val, notB_true, iteB_false]
  exact lp1 50 l i k h1 h1' h2 h2' 50 0 [] (by omega) (by omega) (by simp) (by simp) (by simp [W])
end Go.Proofs.Ytkaihgejdglemaa.Vm.Rn
