/- The plain laws of descriptions. -/
import Derived.Test.YtogipciicekmoaaGreatDoorVm3
import Derived.Test.YtogipciicekmoaaGreatDoorFnsB
namespace Go.Proofs.YtogipciicekmoaaGreatDoor.Vm
open Go
section
variable {α β : Type}
@[simp] theorem iteB_true (a b : Option α) : iteB true a b = a := rfl
@[simp] theorem iteB_false (a b : Option α) : iteB false a b = b := rfl
@[simp] theorem mustR_true (κ : Option α) : mustR true κ = κ := rfl
@[simp] theorem bindR_val (y : β) (κ : β → Option α) : bindR (some y) κ = κ y := rfl
theorem iteB_eq (c : Bool) (a b : Option α) : iteB c a b = if c = true then a else b := by cases c <;> rfl
theorem iteB_pos {c : Bool} (h : c = true) (a b : Option α) : iteB c a b = a := by subst h; rfl
theorem iteB_neg {c : Bool} (h : c = false) (a b : Option α) : iteB c a b = b := by subst h; rfl
theorem iteB_dec {p : Prop} [Decidable p] (a b : Option α) : iteB (decide p) a b = if p then a else b := by
  by_cases h : p
  · rw [if_pos h]; exact iteB_pos (decide_eq_true h) a b
  · rw [if_neg h]; exact iteB_neg (decide_eq_false h) a b
theorem mustR_pos {c : Bool} (h : c = true) (κ : Option α) : mustR c κ = κ := by subst h; rfl
theorem mustR_dec {p : Prop} [Decidable p] (h : p) (κ : Option α) : mustR (decide p) κ = κ := mustR_pos (decide_eq_true h) κ
theorem withinR_nat {i n : Nat} (h : i < n) (κ : Nat → Option α) : withinR (i : Int) n κ = κ i := by
  unfold withinR
  rw [mustR_dec (by omega), mustR_dec (by omega)]; rfl
theorem withinR_pos {i : Int} {n : Nat} (h0 : 0 ≤ i) (h : i < n) (κ : Nat → Option α) : withinR i n κ = κ i.toNat := by
  unfold withinR
  rw [mustR_dec h0, mustR_dec h]
theorem withinR_zero {n : Nat} (h : 0 < n) (κ : Nat → Option α) : withinR 0 n κ = κ 0 := withinR_nat (i := 0) h κ
theorem notB_eq (b : Bool) : notB b = !b := rfl
@[simp] theorem notB_true : notB true = false := rfl
@[simp] theorem notB_false : notB false = true := rfl
theorem w64_id {n : Int} (h0 : -9223372036854775808 ≤ n) (h1 : n < 9223372036854775808) : w64 n = n := by
  simp [w64, IntKind.wrap, IntKind.bits, IntKind.signed]; omega
theorem w8_id {n : Int} (h0 : 0 ≤ n) (h1 : n < 256) : w8 n = n := by
  simp [w8, IntKind.wrap, IntKind.bits, IntKind.signed]; omega
theorem byteAt_range (l : List UInt8) (i : Nat) : 0 ≤ byteAt l i ∧ byteAt l i < 256 := by
  have := (List.getD l i 0).toNat_lt
  unfold byteAt; omega
theorem w64_byte (l : List UInt8) (i : Nat) : w64 (byteAt l i) = byteAt l i := by
  have := byteAt_range l i
  exact w64_id (by omega) (by omega)
theorem bits_nat (x : Nat) (h : x < 18446744073709551616) : (BitVec.ofInt 64 (x : Int)).toNat = x := by
  rw [BitVec.toNat_ofInt]
  omega
theorem w64_nat {n : Nat} (h : n < 9223372036854775808) : w64 (n : Int) = n := w64_id (by omega) (by omega)
theorem bitI_or (x y : Nat) (hx : x < 9223372036854775808) (hy : y < 9223372036854775808) : bitI .or .i64 (x : Int) (y : Int) = ((x ||| y : Nat) : Int) := by
  have h : x ||| y < 2 ^ 63 := Nat.or_lt_two_pow (by omega) (by omega)
  have e : bitI .or .i64 (x : Int) (y : Int) = w64 (((BitVec.ofInt 64 (x : Int) ||| BitVec.ofInt 64 (y : Int)).toNat : Nat) : Int) := rfl
  rw [e, BitVec.toNat_or, bits_nat x (by omega), bits_nat y (by omega)]
  exact w64_nat (by omega)
theorem or_add (a b k : Nat) (h : b < 2 ^ k) : (a * 2 ^ k) ||| b = a * 2 ^ k + b := by
  rw [← Nat.shiftLeft_eq, Nat.shiftLeft_add_eq_or_of_lt h]
theorem bitI_shl_or (n m : Nat) (hn : n < 70368744177664) (hm : m < 64) : bitI .or .i64 (shlI .i64 (n : Int) 6) (m : Int) = ((64 * n + m : Nat) : Int) := by
  have e : shlI .i64 (n : Int) 6 = ((n * 2 ^ 6 : Nat) : Int) := by
    show w64 ((n : Int) * 2 ^ 6) = _
    rw [w64_id (by omega) (by omega)]; omega
  rw [e, bitI_or _ _ (by omega) (by omega), or_add n m 6 (by omega)]
  omega
theorem bitI_and_u8 : ∀ c : Nat, c < 256 → bitI .and .u8 (c : Int) 63 = ((c % 64 : Nat) : Int) ∧ (decide (bitI .and .u8 (c : Int) 192 = 128) = decide (128 ≤ c ∧ c ≤ 191)) := by
  decide +kernel
end
end Go.Proofs.YtogipciicekmoaaGreatDoor.Vm
namespace Go.Proofs.YtogipciicekmoaaGreatDoor.Vm.Gz
open Go Go.Proofs.YtogipciicekmoaaGreatDoor.Vm
set_option linter.unusedVariables false
set_option maxRecDepth 100000
theorem fuel_gt (n : Nat) (h : n < 1000000000000000) : n < fuel := by unfold fuel; omega
section
variable {z : Nat}
def isF (c : UInt8) : Bool := decide (128 ≤ c.toNat ∧ c.toNat ≤ 191)
theorem isFollower_eq (c : UInt8) : s_runes_isFollower ((c.toNat : Int), ()) = some (isF c, ()) := by
  simp only [s_runes_isFollower, runes_isFollower.p0, runes_isFollower.t0, isF]
  rw [(bitI_and_u8 c.toNat c.toNat_lt).2]
def sgn (n : Int) : Bool := decide (0 ≤ n) && (decide (n < 1114112) && (decide (n < 55296) || decide (57343 < n)))
def enc (n : Nat) : List UInt8 :=
  if n < 128 then [UInt8.ofNat n]
  else if n < 2048 then [UInt8.ofNat (192 + n / 64), UInt8.ofNat (128 + n % 64)]
  else if n < 65536 then [UInt8.ofNat (224 + n / 4096), UInt8.ofNat (128 + n / 64 % 64), UInt8.ofNat (128 + n % 64)]
  else [UInt8.ofNat (240 + n / 262144), UInt8.ofNat (128 + n / 4096 % 64), UInt8.ofNat (128 + n / 64 % 64), UInt8.ofNat (128 + n % 64)]
def n2 (a d : UInt8) : Nat := 64 * (a.toNat - 192) + d.toNat % 64
def n3 (a d e : UInt8) : Nat := 64 * (64 * (a.toNat - 224) + d.toNat % 64) + e.toNat % 64
def n4 (a d e f : UInt8) : Nat := 64 * (64 * (64 * (a.toNat - 240) + d.toNat % 64) + e.toNat % 64) + f.toNat % 64
def no : Int × Int := (-1, 0)
def dec2 (a : UInt8) : List UInt8 → Int × Int
  | d :: _ => if (isF d && decide (128 ≤ n2 a d)) = true then ((n2 a d : Int), 2) else no
  | _ => no
def dec3 (a : UInt8) : List UInt8 → Int × Int
  | d :: e :: _ => if (isF d && isF e && decide (2048 ≤ n3 a d e) && sgn (n3 a d e)) = true then ((n3 a d e : Int), 3) else no
  | _ => no
def dec4 (a : UInt8) : List UInt8 → Int × Int
  | d :: e :: f :: _ => if (isF d && isF e && isF f && decide (65536 ≤ n4 a d e f) && sgn (n4 a d e f)) = true then ((n4 a d e f : Int), 4) else no
  | _ => no
def dec : List UInt8 → Int × Int
  | [] => no
  | a :: r => if a.toNat < 128 then ((a.toNat : Int), 1) else if a.toNat < 192 then no else if a.toNat < 224 then dec2 a r else if a.toNat < 240 then dec3 a r else if a.toNat < 248 then dec4 a r else no
theorem isSign_eq (n : Int) : s_runes_isSign (n, ()) = some (sgn n, ()) := by
  simp only [s_runes_isSign, runes_isSign.p0, runes_isSign.t0, iteB_dec, sgn]
  by_cases h0 : 0 ≤ n <;> by_cases h1 : n < 1114112 <;> by_cases h2 : n < 55296 <;> simp [h0, h1, h2]
theorem rsign_eq (n : Int) : s_ref01_Sign (n, ()) = some (sgn n, ()) := by
  simp only [s_ref01_Sign, ref01_Sign.p0, ref01_Sign.t0, iteB_dec, sgn, notB_eq]
  by_cases h0 : 0 ≤ n <;> by_cases h1 : n < 1114112 <;> rcases Int.lt_or_le n 55296 with h2 | h2 <;> rcases Int.lt_or_le 57343 n with h3 | h3 <;> simp [h0, h1, h2, h3, Int.not_le.2, Int.not_lt.2] <;> omega
theorem byteAt0 (a : UInt8) (r : List UInt8) : byteAt (a :: r) 0 = (a.toNat : Int) := rfl
theorem shapeOf_eq (c : UInt8) : s_runes_shapeOf ((c.toNat : Int), ()) = some ((if c.toNat < 128 then (1, 0, 0) else if c.toNat < 192 then (0, 0, 0) else if c.toNat < 224 then (2, 192, 128) else if c.toNat < 240 then (3, 224, 2048) else if c.toNat < 248 then (4, 240, 65536) else (0, 0, 0)), ()) := by
  have hc := c.toNat_lt
  simp only [s_runes_shapeOf, runes_shapeOf.p0, runes_shapeOf.t0, runes_shapeOf.p1, runes_shapeOf.t1, runes_shapeOf.p2, runes_shapeOf.t2, runes_shapeOf.p3, runes_shapeOf.t3, runes_shapeOf.p4, runes_shapeOf.t4, iteB_dec, iteB_false]
  generalize c.toNat = x at *
  by_cases h1 : x < 128
  · rw [if_pos (by omega), if_pos h1]
  rw [if_neg (by omega), if_neg h1]
  by_cases h2 : x < 192
  · rw [if_neg (by omega), if_neg (by omega), if_neg (by omega), if_pos h2]
  rw [if_pos (by omega), if_neg h2]
  by_cases h3 : x < 224
  · rw [if_pos (by omega), if_pos h3]
  rw [if_neg (by omega), if_pos (by omega), if_neg h3]
  by_cases h4 : x < 240
  · rw [if_pos (by omega), if_pos h4]
  rw [if_neg (by omega), if_pos (by omega), if_neg h4]
  by_cases h5 : x < 248
  · rw [if_pos (by omega), if_pos h5]
  rw [if_neg (by omega), if_neg h5]
theorem p3_step (k m : Nat) (s : List UInt8) (x : Int) (i : Nat) (n : Nat) (hd le : Int) (hi : i < n) (hn : n ≤ 10) (hs : i < s.length) (h0 : 0 ≤ x) (h1 : x < 70368744177664) :
    runes_First.p3 k (m + 1) s x i (n, hd, le) = if isF (s.getD i 0) = true then runes_First.p3 k m s (64 * x + ((s.getD i 0).toNat % 64 : Nat)) (i + 1 : Nat) (n, hd, le) else some ((-1, 0), ()) := by
  obtain ⟨z, rfl⟩ : ∃ z : Nat, x = z := ⟨x.toNat, by omega⟩
  show runes_First.t3 (runes_First.p3 k m) (runes_First.p4 k) s z i (n, hd, le) = _
  simp only [runes_First.t3, iteB_dec]
  rw [if_pos (by omega), withinR_nat hs]
  show bindR (s_runes_isFollower (((s.getD i 0).toNat : Int), ())) _ = _
  rw [isFollower_eq, bindR_val]
  have hb := (s.getD i 0).toNat_lt
  cases hF : isF (s.getD i 0) with
  | false => rfl
  | true =>
    simp only [notB_true, iteB_false, if_true, withinR_nat hs]
    rw [w64_id (n := (i : Int) + 1) (by omega) (by omega)]
    have e : w64 (bitI .and .u8 (byteAt s i) 63) = (((s.getD i 0).toNat % 64 : Nat) : Int) := by
      show w64 (bitI .and .u8 ((s.getD i 0).toNat : Int) 63) = _
      rw [(bitI_and_u8 _ hb).1, w64_nat (by omega)]
    rw [e, bitI_shl_or z _ (by omega) (by omega)]
    congr 1
theorem p3_end (k m : Nat) (s : List UInt8) (x : Int) (n : Nat) (hd le : Int) :
    runes_First.p3 k (m + 1) s x n (n, hd, le) = some ((if le ≤ x ∧ sgn x = true then (x, (n : Int)) else no), ()) := by
  show runes_First.t3 (runes_First.p3 k m) (runes_First.p4 k) s x n (n, hd, le) = _
  simp only [runes_First.t3, iteB_dec]
  rw [if_neg (by omega)]
  simp only [runes_First.p4, runes_First.t4, runes_First.p5, runes_First.t5, runes_First.p6, runes_First.t6, iteB_dec, isSign_eq, bindR_val, iteB_true, notB_eq]
  by_cases h : x < le
  · rw [if_pos h, if_neg (by omega)]; rfl
  · rw [if_neg h]
    cases hs : sgn x with
    | true => rw [if_pos ⟨by omega, rfl⟩]; rfl
    | false => rw [if_neg (by simp)]; rfl
theorem fuel10 : ∃ z, fuel = z + 10 := ⟨4611686018427387894, rfl⟩
theorem first_gen (s : List UInt8) : runes_First.t0 (runes_First.p1 (z + 10)) (s, ()) = some (dec s, ()) := by
  cases s with
  | nil => rfl
  | cons a r =>
    have ha := a.toNat_lt
    simp only [runes_First.t0, iteB_dec]
    rw [if_neg (by simp), withinR_zero (by simp), byteAt0, shapeOf_eq, bindR_val]
    simp only [dec]
    by_cases h1 : a.toNat < 128
    · rw [if_pos h1, if_pos h1]
      simp only [runes_First.p1, runes_First.t1, iteB_dec, runes_First.p2, runes_First.t2]
      rw [if_neg (by decide), if_neg (by simp; omega), withinR_zero (by simp), byteAt0, w64_id (n := (a.toNat : Int)) (by omega) (by omega), w64_id (by omega) (by omega)]
      rw [show ((1 : Int), (0 : Int), (0 : Int)) = (((1 : Nat) : Int), 0, 0) from rfl, show (1 : Int) = ((1 : Nat) : Int) from rfl, p3_end (z + 10) (z + 9)]
      have : sgn ((a.toNat : Int) - 0) = true := by simp [sgn]; omega
      rw [if_pos ⟨by omega, this⟩]; simp
    rw [if_neg h1, if_neg h1]
    by_cases h2 : a.toNat < 192
    · rw [if_pos h2, if_pos h2]; rfl
    rw [if_neg h2, if_neg h2]
    by_cases h3 : a.toNat < 224
    · rw [if_pos h3, if_pos h3]
      simp only [runes_First.p1, runes_First.t1, iteB_dec, runes_First.p2, runes_First.t2]
      rw [if_neg (by decide)]
      cases r with
      | nil => rfl
      | cons d r =>
        rw [if_neg (by simp; omega), withinR_zero (by simp), byteAt0, w64_id (n := (a.toNat : Int)) (by omega) (by omega), w64_id (by omega) (by omega)]
        rw [show ((2 : Int), (192 : Int), (128 : Int)) = (((2 : Nat) : Int), 192, 128) from rfl, show (1 : Int) = ((1 : Nat) : Int) from rfl, p3_step (z + 10) (z + 9) _ _ 1 2 _ _ (by omega) (by omega) (by simp) (by omega) (by omega)]
        simp only [List.getD_cons_succ, List.getD_cons_zero, dec2]
        cases hF : isF d with
        | false => rfl
        | true =>
          rw [if_pos rfl, p3_end (z + 10) (z + 8)]
          have e : 64 * ((a.toNat : Int) - 192) + ((d.toNat % 64 : Nat) : Int) = (n2 a d : Nat) := by simp only [n2]; omega
          have hn : n2 a d < 2048 := by simp only [n2]; omega
          have hs : sgn (n2 a d : Nat) = true := by
            simp only [sgn, Bool.and_eq_true, Bool.or_eq_true, decide_eq_true_eq]; omega
          rw [e, hs]
          by_cases hl : 128 ≤ n2 a d
          · rw [if_pos ⟨by omega, rfl⟩, if_pos (by simp [hl])]; rfl
          · rw [if_neg (fun h => by have := h.1; omega), if_neg (by simp [hl])]
    rw [if_neg h3, if_neg h3]
    by_cases h4 : a.toNat < 240
    · rw [if_pos h4, if_pos h4]
      simp only [runes_First.p1, runes_First.t1, iteB_dec, runes_First.p2, runes_First.t2]
      rw [if_neg (by decide)]
      match r with
      | [] => rfl
      | [d] => rfl
      | d :: e :: r =>
        rw [if_neg (by simp; omega), withinR_zero (by simp), byteAt0, w64_id (n := (a.toNat : Int)) (by omega) (by omega), w64_id (by omega) (by omega)]
        rw [show ((3 : Int), (224 : Int), (2048 : Int)) = (((3 : Nat) : Int), 224, 2048) from rfl, show (1 : Int) = ((1 : Nat) : Int) from rfl, p3_step (z + 10) (z + 9) _ _ 1 3 _ _ (by omega) (by omega) (by simp) (by omega) (by omega)]
        simp only [List.getD_cons_succ, List.getD_cons_zero, dec3]
        cases hF : isF d with
        | false => rfl
        | true =>
          rw [if_pos rfl, p3_step (z + 10) (z + 8) _ _ 2 3 _ _ (by omega) (by omega) (by simp) (by omega) (by omega)]
          simp only [List.getD_cons_succ, List.getD_cons_zero]
          cases hE : isF e with
          | false => rfl
          | true =>
            rw [if_pos rfl, p3_end (z + 10) (z + 7)]
            have e1 : 64 * (64 * ((a.toNat : Int) - 224) + ((d.toNat % 64 : Nat) : Int)) + ((e.toNat % 64 : Nat) : Int) = (n3 a d e : Nat) := by simp only [n3]; omega
            rw [e1]
            by_cases hl : 2048 ≤ n3 a d e <;> cases hs : sgn (n3 a d e : Nat) <;> simp [hl] <;> omega
    rw [if_neg h4, if_neg h4]
    by_cases h5 : a.toNat < 248
    · rw [if_pos h5, if_pos h5]
      simp only [runes_First.p1, runes_First.t1, iteB_dec, runes_First.p2, runes_First.t2]
      rw [if_neg (by decide)]
      match r with
      | [] => rfl
      | [d] => rfl
      | [d, e] => rfl
      | d :: e :: f :: r =>
        rw [if_neg (by simp; omega), withinR_zero (by simp), byteAt0, w64_id (n := (a.toNat : Int)) (by omega) (by omega), w64_id (by omega) (by omega)]
        rw [show ((4 : Int), (240 : Int), (65536 : Int)) = (((4 : Nat) : Int), 240, 65536) from rfl, show (1 : Int) = ((1 : Nat) : Int) from rfl, p3_step (z + 10) (z + 9) _ _ 1 4 _ _ (by omega) (by omega) (by simp) (by omega) (by omega)]
        simp only [List.getD_cons_succ, List.getD_cons_zero, dec4]
        cases hF : isF d with
        | false => rfl
        | true =>
          rw [if_pos rfl, p3_step (z + 10) (z + 8) _ _ 2 4 _ _ (by omega) (by omega) (by simp) (by omega) (by omega)]
          simp only [List.getD_cons_succ, List.getD_cons_zero]
          cases hE : isF e with
          | false => rfl
          | true =>
            rw [if_pos rfl, p3_step (z + 10) (z + 7) _ _ 3 4 _ _ (by omega) (by omega) (by simp) (by omega) (by omega)]
            simp only [List.getD_cons_succ, List.getD_cons_zero]
            cases hG : isF f with
            | false => rfl
            | true =>
              rw [if_pos rfl, p3_end (z + 10) (z + 6)]
              have e1 : 64 * (64 * (64 * ((a.toNat : Int) - 240) + ((d.toNat % 64 : Nat) : Int)) + ((e.toNat % 64 : Nat) : Int)) + ((f.toNat % 64 : Nat) : Int) = (n4 a d e f : Nat) := by simp only [n4]; omega
              rw [e1]
              by_cases hl : 65536 ≤ n4 a d e f <;> cases hs : sgn (n4 a d e f : Nat) <;> simp [hl] <;> omega
    rw [if_neg h5, if_neg h5]; rfl
theorem sgn_nat {n : Int} (h : sgn n = true) : ∃ m : Nat, n = m ∧ m < 1114112 ∧ (m < 55296 ∨ 57343 < m) := by
  simp only [sgn, Bool.and_eq_true, Bool.or_eq_true, decide_eq_true_eq] at h
  exact ⟨n.toNat, by omega, by omega, by omega⟩
theorem w8_nat {n : Nat} (h : n < 256) : w8 (n : Int) = n := w8_id (by omega) (by omega)
theorem rbytes_eq (n : Int) : s_ref01_Bytes (n, ()) = some (if sgn n = true then enc n.toNat else [], ()) := by
  show ref01_Bytes.t0 (n, ()) = _
  simp only [ref01_Bytes.t0, rsign_eq, bindR_val]
  cases hs : sgn n with
  | false => rfl
  | true =>
    obtain ⟨m, rfl, h1, h2⟩ := sgn_nat hs
    simp only [notB_true, iteB_false, iteB_dec, if_true, Int.toNat_natCast, enc]
    have a1 : w64 (Int.tdiv (m : Int) 64) = ((m / 64 : Nat) : Int) := w64_nat (n := m / 64) (by omega)
    have a2 : w64 (Int.tdiv (m : Int) 4096) = ((m / 4096 : Nat) : Int) := w64_nat (n := m / 4096) (by omega)
    have a3 : w64 (Int.tdiv (m : Int) 262144) = ((m / 262144 : Nat) : Int) := w64_nat (n := m / 262144) (by omega)
    have b1 : ∀ x : Nat, Int.tmod (x : Int) 64 = ((x % 64 : Nat) : Int) := fun x => rfl
    have c : ∀ (x y : Nat), x + y < 256 → w8 (w64 ((x : Int) + (y : Int))) = ((x + y : Nat) : Int) := fun x y h => by
      rw [w64_id (by omega) (by omega), w8_id (by omega) (by omega)]; omega
    have c192 := fun y => c 192 y
    have c128 := fun y => c 128 y
    have c224 := fun y => c 224 y
    have c240 := fun y => c 240 y
    simp only [Int.cast_ofNat_Int] at c192 c128 c224 c240
    by_cases d1 : m < 128
    · rw [if_pos (by omega), if_pos d1, w8_nat (by omega)]; rfl
    rw [if_neg (by omega), if_neg d1]
    by_cases d2 : m < 2048
    · rw [if_pos (by omega), if_pos d2, a1, b1, c192 _ (by omega), c128 _ (by omega)]; rfl
    rw [if_neg (by omega), if_neg d2]
    by_cases d3 : m < 65536
    · rw [if_pos (by omega), if_pos d3, a1, a2, b1, b1, c224 _ (by omega), c128 _ (by omega), c128 _ (by omega)]; rfl
    rw [if_neg (by omega), if_neg d3, a1, a2, a3, b1, b1, b1, c240 _ (by omega), c128 _ (by omega), c128 _ (by omega), c128 _ (by omega)]
    rfl
theorem toNat_ofNat (n : Nat) (h : n < 256) : (UInt8.ofNat n).toNat = n := by
  rw [UInt8.toNat_ofNat']; omega
theorem isF_ofNat (n : Nat) (h : n < 64) : isF (UInt8.ofNat (128 + n)) = true := by
  unfold isF; rw [toNat_ofNat _ (by omega)]; simp; omega
theorem sgn_of (m : Nat) (h1 : m < 1114112) (h2 : m < 55296 ∨ 57343 < m) : sgn m = true := by
  simp only [sgn, Bool.and_eq_true, Bool.or_eq_true, decide_eq_true_eq]; omega
theorem dec_enc (m : Nat) (h1 : m < 1114112) (h2 : m < 55296 ∨ 57343 < m) (s : List UInt8) : dec (enc m ++ s) = ((m : Int), ((enc m).length : Int)) := by
  unfold enc
  by_cases d1 : m < 128
  · rw [if_pos d1]
    simp only [List.cons_append, List.nil_append, dec, toNat_ofNat m (by omega)]
    rw [if_pos d1]; rfl
  rw [if_neg d1]
  by_cases d2 : m < 2048
  · rw [if_pos d2]
    simp only [List.cons_append, List.nil_append, dec, toNat_ofNat (192 + m / 64) (by omega), dec2, isF_ofNat _ (Nat.mod_lt m (by omega : 0 < 64))]
    have e : n2 (UInt8.ofNat (192 + m / 64)) (UInt8.ofNat (128 + m % 64)) = m := by
      unfold n2; rw [toNat_ofNat _ (by omega), toNat_ofNat _ (by omega)]; omega
    rw [if_neg (by omega), if_neg (by omega), if_pos (by omega), e, if_pos (by simp; omega)]; rfl
  rw [if_neg d2]
  by_cases d3 : m < 65536
  · rw [if_pos d3]
    simp only [List.cons_append, List.nil_append, dec, toNat_ofNat (224 + m / 4096) (by omega), dec3, isF_ofNat _ (Nat.mod_lt m (by omega : 0 < 64)), isF_ofNat _ (Nat.mod_lt (m / 64) (by omega : 0 < 64))]
    have e : n3 (UInt8.ofNat (224 + m / 4096)) (UInt8.ofNat (128 + m / 64 % 64)) (UInt8.ofNat (128 + m % 64)) = m := by
      unfold n3; rw [toNat_ofNat _ (by omega), toNat_ofNat _ (by omega), toNat_ofNat _ (by omega)]; omega
    rw [if_neg (by omega), if_neg (by omega), if_neg (by omega), if_pos (by omega), e, if_pos (by simp [sgn_of m h1 h2]; omega)]; rfl
  rw [if_neg d3]
  simp only [List.cons_append, List.nil_append, dec, toNat_ofNat (240 + m / 262144) (by omega), dec4, isF_ofNat _ (Nat.mod_lt m (by omega : 0 < 64)), isF_ofNat _ (Nat.mod_lt (m / 64) (by omega : 0 < 64)), isF_ofNat _ (Nat.mod_lt (m / 4096) (by omega : 0 < 64))]
  have e : n4 (UInt8.ofNat (240 + m / 262144)) (UInt8.ofNat (128 + m / 4096 % 64)) (UInt8.ofNat (128 + m / 64 % 64)) (UInt8.ofNat (128 + m % 64)) = m := by
    unfold n4; rw [toNat_ofNat _ (by omega), toNat_ofNat _ (by omega), toNat_ofNat _ (by omega), toNat_ofNat _ (by omega)]; omega
  rw [if_neg (by omega), if_neg (by omega), if_neg (by omega), if_neg (by omega), if_pos (by omega), e, if_pos (by simp [sgn_of m h1 h2]; omega)]; rfl
theorem ext8 {a b : UInt8} (h : a.toNat = b.toNat) : a = b := UInt8.toNat_inj.1 h
theorem isF_iff {d : UInt8} : isF d = true ↔ 128 ≤ d.toNat ∧ d.toNat ≤ 191 := by unfold isF; simp
theorem dec_spec (s : List UInt8) : (dec s = no) ∨ ∃ (m : Nat) (r : List UInt8), dec s = ((m : Int), ((enc m).length : Int)) ∧ s = enc m ++ r ∧ m < 1114112 ∧ (m < 55296 ∨ 57343 < m) := by
  cases s with
  | nil => exact .inl rfl
  | cons a r =>
    have ha := a.toNat_lt
    simp only [dec]
    by_cases h1 : a.toNat < 128
    · rw [if_pos h1]
      refine .inr ⟨a.toNat, r, ?_, ?_, by omega, by omega⟩
      · simp [enc, h1]
      · simp [enc, h1]
    rw [if_neg h1]
    by_cases h2 : a.toNat < 192
    · rw [if_pos h2]; exact .inl rfl
    rw [if_neg h2]
    by_cases h3 : a.toNat < 224
    · rw [if_pos h3]
      cases r with
      | nil => exact .inl rfl
      | cons d r =>
        simp only [dec2]
        by_cases hc : (isF d && decide (128 ≤ n2 a d)) = true
        · rw [if_pos hc]
          simp only [Bool.and_eq_true, decide_eq_true_eq, isF_iff] at hc
          obtain ⟨hd, hl⟩ := hc
          have hn : n2 a d < 2048 := by unfold n2; omega
          have e : enc (n2 a d) = [a, d] := by
            unfold enc
            rw [if_neg (by omega), if_pos hn]
            have k1 : UInt8.ofNat (192 + n2 a d / 64) = a := ext8 (by rw [toNat_ofNat _ (by omega)]; unfold n2; omega)
            have k2 : UInt8.ofNat (128 + n2 a d % 64) = d := ext8 (by rw [toNat_ofNat _ (by omega)]; unfold n2; omega)
            rw [k1, k2]
          exact .inr ⟨n2 a d, r, by rw [e]; rfl, by rw [e]; rfl, by omega, by omega⟩
        · rw [if_neg hc]; exact .inl rfl
    rw [if_neg h3]
    by_cases h4 : a.toNat < 240
    · rw [if_pos h4]
      match r with
      | [] => exact .inl rfl
      | [d] => exact .inl rfl
      | d :: e :: r =>
        simp only [dec3]
        by_cases hc : (isF d && isF e && decide (2048 ≤ n3 a d e) && sgn (n3 a d e)) = true
        · rw [if_pos hc]
          simp only [Bool.and_eq_true, decide_eq_true_eq, isF_iff] at hc
          obtain ⟨⟨⟨hd, he⟩, hl⟩, hs⟩ := hc
          obtain ⟨m, hm, g1, g2⟩ := sgn_nat hs
          obtain rfl : n3 a d e = m := by omega
          have hn : n3 a d e < 65536 := by unfold n3; omega
          have en : enc (n3 a d e) = [a, d, e] := by
            unfold enc
            rw [if_neg (by omega), if_neg (by omega), if_pos hn]
            have k1 : UInt8.ofNat (224 + n3 a d e / 4096) = a := ext8 (by rw [toNat_ofNat _ (by omega)]; unfold n3; omega)
            have k2 : UInt8.ofNat (128 + n3 a d e / 64 % 64) = d := ext8 (by rw [toNat_ofNat _ (by omega)]; unfold n3; omega)
            have k3 : UInt8.ofNat (128 + n3 a d e % 64) = e := ext8 (by rw [toNat_ofNat _ (by omega)]; unfold n3; omega)
            rw [k1, k2, k3]
          exact .inr ⟨n3 a d e, r, by rw [en]; rfl, by rw [en]; rfl, g1, g2⟩
        · rw [if_neg hc]; exact .inl rfl
    rw [if_neg h4]
    by_cases h5 : a.toNat < 248
    · rw [if_pos h5]
      match r with
      | [] => exact .inl rfl
      | [d] => exact .inl rfl
      | [d, e] => exact .inl rfl
      | d :: e :: f :: r =>
        simp only [dec4]
        by_cases hc : (isF d && isF e && isF f && decide (65536 ≤ n4 a d e f) && sgn (n4 a d e f)) = true
        · rw [if_pos hc]
          simp only [Bool.and_eq_true, decide_eq_true_eq, isF_iff] at hc
          obtain ⟨⟨⟨⟨hd, he⟩, hf⟩, hl⟩, hs⟩ := hc
          obtain ⟨m, hm, g1, g2⟩ := sgn_nat hs
          obtain rfl : n4 a d e f = m := by omega
          have en : enc (n4 a d e f) = [a, d, e, f] := by
            unfold enc
            rw [if_neg (by omega), if_neg (by omega), if_neg (by omega)]
            have k1 : UInt8.ofNat (240 + n4 a d e f / 262144) = a := ext8 (by rw [toNat_ofNat _ (by omega)]; unfold n4; omega)
            have k2 : UInt8.ofNat (128 + n4 a d e f / 4096 % 64) = d := ext8 (by rw [toNat_ofNat _ (by omega)]; unfold n4; omega)
            have k3 : UInt8.ofNat (128 + n4 a d e f / 64 % 64) = e := ext8 (by rw [toNat_ofNat _ (by omega)]; unfold n4; omega)
            have k4 : UInt8.ofNat (128 + n4 a d e f % 64) = f := ext8 (by rw [toNat_ofNat _ (by omega)]; unfold n4; omega)
            rw [k1, k2, k3, k4]
          exact .inr ⟨n4 a d e f, r, by rw [en]; rfl, by rw [en]; rfl, g1, g2⟩
        · rw [if_neg hc]; exact .inl rfl
    rw [if_neg h5]; exact .inl rfl
theorem enc_len (m : Nat) : 1 ≤ (enc m).length ∧ (enc m).length ≤ 4 := by
  unfold enc; split <;> (try split) <;> (try split) <;> simp
def b0 (s : List UInt8) (i : Nat) : Int := ((s.getD i 0).toNat : Int)
theorem b0_range (s : List UInt8) (i : Nat) : 0 ≤ b0 s i ∧ b0 s i < 256 := by
  have := (s.getD i 0).toNat_lt; unfold b0; omega
def cond (s : List UInt8) (k : Nat) (n f : Int) : Prop := 0 ≤ f ∧ sgn n = true ∧ enc n.toNat = s.take k
instance (s : List UInt8) (k : Nat) (n f : Int) : Decidable (cond s k n f) := inferInstanceAs (Decidable (_ ∧ _ ∧ _))
theorem rp6 (k : Nat) (a1 : ref01_First.T1) (s : List UInt8) (x4 : Nat) (x5 x8 : Int) (h : x4 ≤ s.length) (h4 : x4 < 10) :
    ref01_First.p7 k a1 s x4 x5 x8 = if cond s x4 x5 x8 then some ((x5, (x4 : Int)), ()) else a1 s (x4 + 1 : Nat) := by
  have e9 : ref01_First.p10 k a1 s x4 = a1 s (x4 + 1 : Nat) := by
    show a1 s (w64 ((x4 : Int) + 1)) = _
    rw [w64_id (by omega) (by omega)]; rfl
  show ref01_First.t7 (ref01_First.p9 k a1) s x4 x5 x8 = _
  have e8 : ∀ b, ref01_First.p9 k a1 s x4 x5 b = if b = true then some ((x5, (x4 : Int)), ()) else a1 s (x4 + 1 : Nat) := fun b => by
    show iteB b (some ((x5, (x4 : Int)), ())) (ref01_First.p10 k a1 s x4) = _
    rw [e9, iteB_eq]
  simp only [ref01_First.t7, rsign_eq, bindR_val, iteB_dec, rbytes_eq, e8, cond]
  by_cases h0 : 0 ≤ x8
  · rw [if_pos h0]
    by_cases hs : sgn x5 = true
    · rw [iteB_pos hs, mustR_dec (by omega), mustR_dec (by omega)]
      simp only [hs, if_true, Int.toNat_natCast, List.drop_zero, decide_eq_true_eq, true_and, h0]
    · rw [iteB_neg (by simpa using hs)]; simp [hs]
  · rw [if_neg h0]; simp [h0]
theorem rp7_step (k m : Nat) (a1 : ref01_First.T1) (s : List UInt8) (x4 : Nat) (x5 x8 : Int) (i : Nat) (hi : i < x4) (h4 : x4 < 10) (hs : x4 ≤ s.length) (h0 : -1000000000 ≤ x5) (h1 : x5 ≤ 1000000000) :
    ref01_First.p8 k a1 (m + 1) s x4 x5 x8 i = ref01_First.p8 k a1 m s x4 (64 * x5 + b0 s i % 64) x8 (i + 1 : Nat) := by
  have hb := b0_range s i
  show ref01_First.t8 (ref01_First.p8 k a1 m) (ref01_First.p7 k a1) s x4 x5 x8 i = _
  simp only [ref01_First.t8, iteB_dec]
  rw [if_pos (by omega), withinR_nat (by omega)]
  have e : Int.tmod (byteAt s i) 64 = b0 s i % 64 := rfl
  rw [e, w64_id (n := b0 s i % 64) (by omega) (by omega), w64_id (n := 64 * x5) (by omega) (by omega), w64_id (by omega) (by omega), w64_id (by omega) (by omega)]; rfl
theorem rp7_end (k m : Nat) (a1 : ref01_First.T1) (s : List UInt8) (x4 : Nat) (x5 x8 : Int) : ref01_First.p8 k a1 (m + 1) s x4 x5 x8 x4 = ref01_First.p7 k a1 s x4 x5 x8 := by
  show ref01_First.t8 (ref01_First.p8 k a1 m) (ref01_First.p7 k a1) s x4 x5 x8 x4 = _
  simp only [ref01_First.t8, iteB_dec]
  rw [if_neg (by omega)]
theorem rp4 (k : Nat) (a1 : ref01_First.T1) (s : List UInt8) (x4 : Nat) (h4 : x4 < 10) (hs : x4 ≤ s.length) : ∀ (m i : Nat) (x5 : Int), x4 < m + i → i ≤ x4 → ref01_First.p5 k a1 m s x4 x5 i = ref01_First.p6 k a1 s x4
  | 0, i, x5, h, hi => by omega
  | m + 1, i, x5, h, hi => by
    show ref01_First.t5 (ref01_First.p5 k a1 m) (ref01_First.p6 k a1) s x4 x5 i = _
    simp only [ref01_First.t5, iteB_dec]
    by_cases hlt : i < x4
    · rw [if_pos (by omega), withinR_nat (by omega), w64_id (n := (i : Int) + 1) (by omega) (by omega)]
      exact rp4 k a1 s x4 h4 hs m (i + 1) _ (by omega) (by omega)
    · rw [if_neg (by omega)]
def v1 (s : List UInt8) : Int := b0 s 0
def v2 (s : List UInt8) : Int := 64 * (b0 s 0 - 192) + b0 s 1 % 64
def v3 (s : List UInt8) : Int := 64 * (64 * (b0 s 0 - 224) + b0 s 1 % 64) + b0 s 2 % 64
def v4 (s : List UInt8) : Int := 64 * (64 * (64 * (b0 s 0 - 240) + b0 s 1 % 64) + b0 s 2 % 64) + b0 s 3 % 64
theorem rp5_pre (s : List UInt8) : w64 (byteAt s 0) = b0 s 0 := w64_byte s 0
theorem rp5_1 (a1 : ref01_First.T1) (s : List UInt8) (h : 1 ≤ s.length) : ref01_First.p6 (z + 10) a1 s 1 = if cond s 1 (v1 s) (b0 s 0) then some ((v1 s, 1), ()) else a1 s 2 := by
  have hb := b0_range s 0
  show ref01_First.t6 (ref01_First.p7 (z + 10) a1) (ref01_First.p8 (z + 10) a1 (z + 10)) s 1 = _
  simp only [ref01_First.t6, iteB_dec]
  rw [withinR_pos (by omega) (by decide), withinR_zero (by omega), if_pos trivial, withinR_zero (by omega), rp5_pre]
  show ref01_First.p7 (z + 10) a1 s (1 : Nat) (b0 s 0) (w64 (b0 s 0 - 0)) = _
  rw [w64_id (by omega) (by omega)]
  exact (rp6 (z + 10) a1 s 1 (v1 s) (b0 s 0 - 0) h (by omega)).trans (by simp)
theorem rp5_2 (a1 : ref01_First.T1) (s : List UInt8) (h : 2 ≤ s.length) : ref01_First.p6 (z + 10) a1 s 2 = if cond s 2 (v2 s) (b0 s 0 - 192) then some ((v2 s, 2), ()) else a1 s 3 := by
  have hb := b0_range s 0
  have hb1 := b0_range s 1
  show ref01_First.t6 (ref01_First.p7 (z + 10) a1) (ref01_First.p8 (z + 10) a1 (z + 10)) s 2 = _
  simp only [ref01_First.t6, iteB_dec]
  rw [withinR_pos (by omega) (by decide), withinR_zero (by omega), if_neg (by omega), rp5_pre]
  show ref01_First.p8 (z + 10) a1 (z + 10) s (2 : Nat) (w64 (b0 s 0 - 192)) (w64 (b0 s 0 - 192)) (1 : Nat) = _
  rw [w64_id (by omega) (by omega), rp7_step (z + 10) (z + 9) a1 s 2 _ _ 1 (by omega) (by omega) h (by omega) (by omega), rp7_end (z + 10) (z + 8)]
  exact rp6 (z + 10) a1 s 2 (v2 s) (b0 s 0 - 192) h (by omega)
theorem rp5_3 (a1 : ref01_First.T1) (s : List UInt8) (h : 3 ≤ s.length) : ref01_First.p6 (z + 10) a1 s 3 = if cond s 3 (v3 s) (b0 s 0 - 224) then some ((v3 s, 3), ()) else a1 s 4 := by
  have hb := b0_range s 0
  have hb1 := b0_range s 1
  have hb2 := b0_range s 2
  show ref01_First.t6 (ref01_First.p7 (z + 10) a1) (ref01_First.p8 (z + 10) a1 (z + 10)) s 3 = _
  simp only [ref01_First.t6, iteB_dec]
  rw [withinR_pos (by omega) (by decide), withinR_zero (by omega), if_neg (by omega), rp5_pre]
  show ref01_First.p8 (z + 10) a1 (z + 10) s (3 : Nat) (w64 (b0 s 0 - 224)) (w64 (b0 s 0 - 224)) (1 : Nat) = _
  rw [w64_id (by omega) (by omega), rp7_step (z + 10) (z + 9) a1 s 3 _ _ 1 (by omega) (by omega) h (by omega) (by omega), rp7_step (z + 10) (z + 8) a1 s 3 _ _ 2 (by omega) (by omega) h (by omega) (by omega), rp7_end (z + 10) (z + 7)]
  exact rp6 (z + 10) a1 s 3 (v3 s) (b0 s 0 - 224) h (by omega)
theorem rp5_4 (a1 : ref01_First.T1) (s : List UInt8) (h : 4 ≤ s.length) : ref01_First.p6 (z + 10) a1 s 4 = if cond s 4 (v4 s) (b0 s 0 - 240) then some ((v4 s, 4), ()) else a1 s 5 := by
  have hb := b0_range s 0
  have hb1 := b0_range s 1
  have hb2 := b0_range s 2
  have hb3 := b0_range s 3
  show ref01_First.t6 (ref01_First.p7 (z + 10) a1) (ref01_First.p8 (z + 10) a1 (z + 10)) s 4 = _
  simp only [ref01_First.t6, iteB_dec]
  rw [withinR_pos (by omega) (by decide), withinR_zero (by omega), if_neg (by omega), rp5_pre]
  show ref01_First.p8 (z + 10) a1 (z + 10) s (4 : Nat) (w64 (b0 s 0 - 240)) (w64 (b0 s 0 - 240)) (1 : Nat) = _
  rw [w64_id (by omega) (by omega), rp7_step (z + 10) (z + 9) a1 s 4 _ _ 1 (by omega) (by omega) h (by omega) (by omega), rp7_step (z + 10) (z + 8) a1 s 4 _ _ 2 (by omega) (by omega) h (by omega) (by omega), rp7_step (z + 10) (z + 7) a1 s 4 _ _ 3 (by omega) (by omega) h (by omega) (by omega), rp7_end (z + 10) (z + 6)]
  exact rp6 (z + 10) a1 s 4 (v4 s) (b0 s 0 - 240) h (by omega)
theorem rp1 (m : Nat) (s : List UInt8) (x4 : Nat) (h : 1 ≤ x4) : ref01_First.p1 (z + 10) (m + 1) s x4 = if x4 ≤ 4 ∧ x4 ≤ s.length then ref01_First.p6 (z + 10) (ref01_First.p1 (z + 10) m) s x4 else some (no, ()) := by
  have e2 : ∀ b, ref01_First.p2 (z + 10) (ref01_First.p1 (z + 10) m) s x4 b = iteB b (ref01_First.p5 (z + 10) (ref01_First.p1 (z + 10) m) (z + 10) s x4 0 0) (some (no, ())) := fun b => rfl
  have e1 : ref01_First.p1 (z + 10) (m + 1) s x4 = iteB (decide ((x4 : Int) ≤ 4)) (ref01_First.p2 (z + 10) (ref01_First.p1 (z + 10) m) s x4 (decide ((x4 : Int) ≤ ((s.length : Nat) : Int)))) (ref01_First.p2 (z + 10) (ref01_First.p1 (z + 10) m) s x4 false) := rfl
  rw [e1, e2, e2, iteB_false, iteB_dec, iteB_dec]
  by_cases h4 : x4 ≤ 4
  · rw [if_pos (by omega)]
    by_cases hs : x4 ≤ s.length
    · rw [if_pos (by omega), if_pos ⟨h4, hs⟩]
      exact rp4 (z + 10) (ref01_First.p1 (z + 10) m) s x4 (by omega) hs (z + 10) 0 0 (by omega) (by omega)
    · rw [if_neg (by omega), if_neg (by omega)]
  · rw [if_neg (by omega), if_neg (by omega)]
theorem cond_dec {s : List UInt8} {k : Nat} {n f : Int} (hk : k ≤ s.length) (h : cond s k n f) : dec s = (n, (k : Int)) := by
  obtain ⟨_, hs, he⟩ := h
  obtain ⟨m, rfl, h1, h2⟩ := sgn_nat hs
  rw [Int.toNat_natCast] at he
  have hl : (enc m).length = k := by rw [he, List.length_take]; omega
  have hsplit : s = enc m ++ s.drop k := by rw [he]; exact (List.take_append_drop k s).symm
  rw [hsplit, dec_enc m h1 h2, hl]
theorem b00 (a : UInt8) (l : List UInt8) : b0 (a :: l) 0 = (a.toNat : Int) := rfl
theorem b01 (a b : UInt8) (l : List UInt8) : b0 (a :: b :: l) 1 = (b.toNat : Int) := rfl
theorem b02 (a b c : UInt8) (l : List UInt8) : b0 (a :: b :: c :: l) 2 = (c.toNat : Int) := rfl
theorem b03 (a b c d : UInt8) (l : List UInt8) : b0 (a :: b :: c :: d :: l) 3 = (d.toNat : Int) := rfl
theorem rfirst_gen (s : List UInt8) : ref01_First.p1 (z + 10) (z + 10) s (1 : Nat) = some (dec s, ()) := by
  have hnot : ∀ {k : Nat} {n f : Int}, k ≤ s.length → 1 ≤ k → dec s = no → ¬ cond s k n f := fun hk h1 hd hc => by
    rw [cond_dec hk hc] at hd
    have := congrArg Prod.snd hd
    simp only [no] at this; omega
  rcases dec_spec s with hd | ⟨m, r, hd, hs, h1, h2⟩
  · rw [hd, rp1 (z + 9) s 1 (by omega)]
    by_cases c1 : 1 ≤ s.length
    · rw [if_pos ⟨by omega, c1⟩]
      rw [show ((1 : Nat) : Int) = 1 from rfl, rp5_1 _ s c1, if_neg (hnot c1 (by omega) hd)]
      rw [show (2 : Int) = ((2 : Nat) : Int) from rfl, rp1 (z + 8) s 2 (by omega)]
      by_cases c2 : 2 ≤ s.length
      · rw [if_pos ⟨by omega, c2⟩, show ((2 : Nat) : Int) = 2 from rfl, rp5_2 _ s c2, if_neg (hnot c2 (by omega) hd)]
        rw [show (3 : Int) = ((3 : Nat) : Int) from rfl, rp1 (z + 7) s 3 (by omega)]
        by_cases c3 : 3 ≤ s.length
        · rw [if_pos ⟨by omega, c3⟩, show ((3 : Nat) : Int) = 3 from rfl, rp5_3 _ s c3, if_neg (hnot c3 (by omega) hd)]
          rw [show (4 : Int) = ((4 : Nat) : Int) from rfl, rp1 (z + 6) s 4 (by omega)]
          by_cases c4 : 4 ≤ s.length
          · rw [if_pos ⟨by omega, c4⟩, show ((4 : Nat) : Int) = 4 from rfl, rp5_4 _ s c4, if_neg (hnot c4 (by omega) hd)]
            rw [show (5 : Int) = ((5 : Nat) : Int) from rfl, rp1 (z + 5) s 5 (by omega), if_neg (by omega)]
          · rw [if_neg (by omega)]
        · rw [if_neg (by omega)]
      · rw [if_neg (by omega)]
    · rw [if_neg (by omega)]
  · have hk := enc_len m
    have hlen : (enc m).length ≤ s.length := by rw [hs, List.length_append]; omega
    have hother : ∀ {k : Nat} {n f : Int}, k ≤ s.length → k ≠ (enc m).length → ¬ cond s k n f := fun hk hne hc => by
      rw [cond_dec hk hc] at hd
      have := congrArg Prod.snd hd
      simp only at this; omega
    have htake : s.take (enc m).length = enc m := by rw [hs]; simp
    have hsg := sgn_of m h1 h2
    rw [hd, rp1 (z + 9) s 1 (by omega), if_pos ⟨by omega, by omega⟩, show ((1 : Nat) : Int) = 1 from rfl, rp5_1 _ s (by omega)]
    by_cases d1 : m < 128
    · have e : enc m = [UInt8.ofNat m] := by simp [enc, d1]
      have ev : v1 s = m := by rw [hs, e]; show b0 (UInt8.ofNat m :: r) 0 = _; rw [b00, toNat_ofNat _ (by omega)]
      rw [e] at htake ⊢
      rw [ev, if_pos ⟨(b0_range s 0).1, hsg, by rw [Int.toNat_natCast, e]; exact htake.symm⟩]; rfl
    have el1 : (enc m).length ≠ 1 := by unfold enc; rw [if_neg d1]; split <;> (try split) <;> simp
    rw [if_neg (hother (by omega) (by omega)), show (2 : Int) = ((2 : Nat) : Int) from rfl, rp1 (z + 8) s 2 (by omega), if_pos ⟨by omega, by omega⟩, show ((2 : Nat) : Int) = 2 from rfl, rp5_2 _ s (by omega)]
    by_cases d2 : m < 2048
    · have e : enc m = [UInt8.ofNat (192 + m / 64), UInt8.ofNat (128 + m % 64)] := by simp [enc, d1, d2]
      have e0 : b0 s 0 = (192 + m / 64 : Nat) := by rw [hs, e]; show b0 (_ :: _) 0 = _; rw [b00, toNat_ofNat _ (by omega)]
      have e1 : b0 s 1 = (128 + m % 64 : Nat) := by rw [hs, e]; show b0 (_ :: _ :: r) 1 = _; rw [b01, toNat_ofNat _ (by omega)]
      have ev : v2 s = m := by unfold v2; rw [e0, e1]; omega
      rw [e] at htake ⊢
      rw [ev, if_pos ⟨by rw [e0]; omega, hsg, by rw [Int.toNat_natCast, e]; exact htake.symm⟩]; rfl
    have el2 : (enc m).length ≠ 2 := by unfold enc; rw [if_neg d1, if_neg d2]; split <;> simp
    rw [if_neg (hother (by omega) (by omega)), show (3 : Int) = ((3 : Nat) : Int) from rfl, rp1 (z + 7) s 3 (by omega), if_pos ⟨by omega, by omega⟩, show ((3 : Nat) : Int) = 3 from rfl, rp5_3 _ s (by omega)]
    by_cases d3 : m < 65536
    · have e : enc m = [UInt8.ofNat (224 + m / 4096), UInt8.ofNat (128 + m / 64 % 64), UInt8.ofNat (128 + m % 64)] := by simp [enc, d1, d2, d3]
      have e0 : b0 s 0 = (224 + m / 4096 : Nat) := by rw [hs, e]; show b0 (_ :: _) 0 = _; rw [b00, toNat_ofNat _ (by omega)]
      have e1 : b0 s 1 = (128 + m / 64 % 64 : Nat) := by rw [hs, e]; show b0 (_ :: _ :: _) 1 = _; rw [b01, toNat_ofNat _ (by omega)]
      have e2 : b0 s 2 = (128 + m % 64 : Nat) := by rw [hs, e]; show b0 (_ :: _ :: _ :: r) 2 = _; rw [b02, toNat_ofNat _ (by omega)]
      have ev : v3 s = m := by unfold v3; rw [e0, e1, e2]; omega
      rw [e] at htake ⊢
      rw [ev, if_pos ⟨by rw [e0]; omega, hsg, by rw [Int.toNat_natCast, e]; exact htake.symm⟩]; rfl
    have el3 : (enc m).length ≠ 3 := by unfold enc; rw [if_neg d1, if_neg d2, if_neg d3]; simp
    rw [if_neg (hother (by omega) (by omega)), show (4 : Int) = ((4 : Nat) : Int) from rfl, rp1 (z + 6) s 4 (by omega), if_pos ⟨by omega, by omega⟩, show ((4 : Nat) : Int) = 4 from rfl, rp5_4 _ s (by omega)]
    have e : enc m = [UInt8.ofNat (240 + m / 262144), UInt8.ofNat (128 + m / 4096 % 64), UInt8.ofNat (128 + m / 64 % 64), UInt8.ofNat (128 + m % 64)] := by simp [enc, d1, d2, d3]
    have e0 : b0 s 0 = (240 + m / 262144 : Nat) := by rw [hs, e]; show b0 (_ :: _) 0 = _; rw [b00, toNat_ofNat _ (by omega)]
    have e1 : b0 s 1 = (128 + m / 4096 % 64 : Nat) := by rw [hs, e]; show b0 (_ :: _ :: _) 1 = _; rw [b01, toNat_ofNat _ (by omega)]
    have e2 : b0 s 2 = (128 + m / 64 % 64 : Nat) := by rw [hs, e]; show b0 (_ :: _ :: _ :: _) 2 = _; rw [b02, toNat_ofNat _ (by omega)]
    have e3 : b0 s 3 = (128 + m % 64 : Nat) := by rw [hs, e]; show b0 (_ :: _ :: _ :: _ :: r) 3 = _; rw [b03, toNat_ofNat _ (by omega)]
    have ev : v4 s = m := by unfold v4; rw [e0, e1, e2, e3]; omega
    rw [e] at htake ⊢
    rw [ev, if_pos ⟨by rw [e0]; omega, hsg, by rw [Int.toNat_natCast, e]; exact htake.symm⟩]; rfl
theorem first_eq (s : List UInt8) : s_runes_First (s, ()) = some (dec s, ()) := by
  obtain ⟨z, hz⟩ := fuel10
  have e : s_runes_First (s, ()) = runes_First.t0 (runes_First.p1 fuel) (s, ()) := rfl
  rw [e, hz]; exact first_gen s
theorem rfirst_eq (s : List UInt8) : s_ref01_First (s, ()) = some (dec s, ()) := by
  obtain ⟨z, hz⟩ := fuel10
  have e : s_ref01_First (s, ()) = ref01_First.p1 fuel fuel s (1 : Nat) := rfl
  rw [e, hz]; exact rfirst_gen s
def wh : Nat → List UInt8 → Bool
  | 0, _ => false
  | _ + 1, [] => true
  | n + 1, s => if (dec s).2 = 0 then false else wh n (s.drop (dec s).2.toNat)
theorem dec_len (s : List UInt8) : (dec s).2 = 0 ∨ ∃ k : Nat, (dec s).2 = k ∧ 1 ≤ k ∧ k ≤ s.length := by
  rcases dec_spec s with h | ⟨m, r, h, hs, _, _⟩
  · left; rw [h]; rfl
  · right
    have := enc_len m
    refine ⟨(enc m).length, by rw [h], this.1, by rw [hs, List.length_append]; omega⟩
theorem rnext_eq (s : List UInt8) : s_runes_reader_next (s, ()) = some (decide (0 < (dec s).2), (s.drop (dec s).2.toNat, ())) := by
  show runes_reader_next.t0 (s, ()) = _
  simp only [runes_reader_next.t0, first_eq, bindR_val]
  rcases dec_len s with h | ⟨k, h, h1, h2⟩
  · rw [h, mustR_dec (by omega), mustR_dec (by omega)]; simp
  · rw [h, mustR_dec (by omega), mustR_dec (by omega)]; simp
theorem whole_p1 (k : Nat) : ∀ (m : Nat) (s : List UInt8), s.length < m → runes_Whole.p1 k m s = some (wh m s, ())
  | 0, s, h => by omega
  | m + 1, s, h => by
    show runes_Whole.t1 (runes_Whole.p1 k m) (runes_Whole.p2 k) s = _
    simp only [runes_Whole.t1, iteB_eq, rnext_eq, bindR_val]
    cases s with
    | nil => rfl
    | cons a r =>
      rw [if_pos (by simp)]
      simp only [wh]
      rcases dec_len (a :: r) with hd | ⟨j, hd, h1, h2⟩
      · rw [hd]; rfl
      · rw [hd, if_neg (by simp [notB_eq]; omega), if_neg (by omega)]
        refine whole_p1 k m _ ?_
        rw [List.length_drop]; simp only [List.length_cons, Int.toNat_natCast] at h h2 ⊢; omega
theorem whole_eq (s : List UInt8) (h : s.length < 100000000000) : s_runes_Whole (s, ()) = some (wh fuel s, ()) := whole_p1 fuel fuel s (fuel_gt _ (by omega))
theorem rwhole_p1 (k : Nat) : ∀ (m : Nat) (s : List UInt8), s.length < m → ref01_Whole.p1 k m s = some (wh m s, ())
  | 0, s, h => by omega
  | m + 1, s, h => by
    show ref01_Whole.t1 (ref01_Whole.p1 k m) (ref01_Whole.p2 k) s = _
    simp only [ref01_Whole.t1, iteB_dec, rfirst_eq, bindR_val]
    cases s with
    | nil => rfl
    | cons a r =>
      rw [if_pos (by simp only [List.length_cons]; omega)]
      simp only [wh]
      rcases dec_len (a :: r) with hd | ⟨j, hd, h1, h2⟩
      · rw [hd]; rfl
      · rw [hd, if_neg (by omega), if_neg (by omega), mustR_dec (by omega), mustR_dec (by omega), List.take_length]
        refine rwhole_p1 k m _ ?_
        rw [List.length_drop]; simp only [List.length_cons, Int.toNat_natCast] at h h2 ⊢; omega
theorem rwhole_eq (s : List UInt8) (h : s.length < 100000000000) : s_ref01_Whole (s, ()) = some (wh fuel s, ()) := rwhole_p1 fuel fuel s (fuel_gt _ (by omega))
end
end Go.Proofs.YtogipciicekmoaaGreatDoor.Vm.Gz
namespace Go.Proofs.YtogipciicekmoaaGreatDoor.Vm.Gz
open Go Go.Proofs.YtogipciicekmoaaGreatDoor.Vm
set_option linter.unusedVariables false
set_option maxRecDepth 100000
theorem w64_succ {i : Nat} (h : i < 4611686018427387904) : w64 ((i : Int) + 1) = ((i + 1 : Nat) : Int) := by
  rw [w64_id (by omega) (by omega)]; omega
theorem loopUp {σ α : Type} {N : Nat} (F : Nat → σ → Int → Option α) (E : σ → Option α) (Inv : Nat → σ → Prop) (hN : N < 4611686018427387903)
    (hstep : ∀ n (i : Nat) s, i < N → Inv i s → ∃ s', Inv (i + 1) s' ∧ F (n + 1) s (i : Int) = F n s' (w64 ((i : Int) + 1)))
    (hend : ∀ n s, Inv N s → F (n + 1) s (N : Int) = E s) : ∀ (d n i : Nat) s, i + d = N → d < n → Inv i s → ∃ s', Inv N s' ∧ F n s (i : Int) = E s'
  | 0, n + 1, i, s, hi, _, h => by
    have : i = N := by omega
    subst this
    exact ⟨s, h, hend n s h⟩
  | d + 1, n + 1, i, s, hi, hn, h => by
    obtain ⟨s1, h1, h2⟩ := hstep n i s (by omega) h
    obtain ⟨s2, h3, h4⟩ := loopUp F E Inv hN hstep hend d n (i + 1) s1 (by omega) (by omega) h1
    exact ⟨s2, h3, by rw [h2, w64_succ (by omega)]; exact h4⟩
  | _, 0, _, _, _, hn, _ => by omega
theorem loopAll {σ α : Type} {N : Nat} (F : Nat → σ → Int → Option α) (E : σ → Option α) (Inv : Nat → σ → Prop) (s : σ) (i : Nat) (hi : i ≤ N) (h0 : Inv i s) (hN : N < 4611686018427387903)
    (hstep : ∀ n (i : Nat) s, i < N → Inv i s → ∃ s', Inv (i + 1) s' ∧ F (n + 1) s (i : Int) = F n s' (w64 ((i : Int) + 1)))
    (hend : ∀ n s, Inv N s → F (n + 1) s (N : Int) = E s) : ∃ s', Inv N s' ∧ F fuel s (i : Int) = E s' :=
  loopUp F E Inv hN hstep hend (N - i) fuel i s (by omega) (show N - i < 4611686018427387904 by omega) h0
theorem lt_dec {a b : Nat} (h : a < b) : decide ((a : Int) < (b : Int)) = true := decide_eq_true (by omega)
theorem lt_no {a : Nat} : decide ((a : Int) < (a : Int)) = false := decide_eq_false (by omega)
theorem room_ok {α : Type} {x y : List α} (h : x.length + y.length < 1000000) : room x y = true := decide_eq_true (by omega)
def cutL (c : UInt8) : List UInt8 → List (List UInt8)
  | [] => [[]]
  | x :: l => if x = c then [] :: cutL c l else match cutL c l with
    | [] => []
    | p :: ps => (x :: p) :: ps
theorem cutL_ne (c : UInt8) : ∀ l, cutL c l ≠ []
  | [] => by simp [cutL]
  | x :: l => by
    unfold cutL
    split
    · simp
    · split
      · rename_i h; exact absurd h (cutL_ne c l)
      · simp
theorem cutL_none (c : UInt8) : ∀ l, c ∉ l → cutL c l = [l]
  | [], _ => rfl
  | x :: l, h => by
    have hx : x ≠ c := fun e => h (by simp [e])
    have hl : c ∉ l := fun e => h (by simp [e])
    unfold cutL
    rw [if_neg hx, cutL_none c l hl]
theorem cutL_app (c : UInt8) : ∀ (a b : List UInt8), c ∉ a → cutL c (a ++ c :: b) = a :: cutL c b
  | [], b, _ => by simp [cutL]
  | x :: a, b, h => by
    have hx : x ≠ c := fun e => h (by simp [e])
    have hl : c ∉ a := fun e => h (by simp [e])
    rw [List.cons_append]
    conv => lhs; unfold cutL
    rw [if_neg hx, cutL_app c a b hl]
theorem cutL_at {c : UInt8} {t : List UInt8} {k : Nat} (h : c ∉ t.take k) (hk : t[k]? = some c) : cutL c t = t.take k :: cutL c (t.drop (k + 1)) := by
  have hl : k < t.length := (List.getElem?_eq_some_iff.1 hk).1
  have he : t[k] = c := (List.getElem?_eq_some_iff.1 hk).2
  have : t = t.take k ++ c :: t.drop (k + 1) := by
    rw [← he, ← List.drop_eq_getElem_cons hl, List.take_append_drop]
  conv => lhs; rw [this]
  exact cutL_app c _ _ h
theorem cutL_len (c : UInt8) : ∀ l, (cutL c l).length = l.count c + 1
  | [] => rfl
  | x :: l => by
    have ih := cutL_len c l
    unfold cutL
    by_cases h : x = c
    · rw [if_pos h, List.length_cons, ih, h, List.count_cons_self]
    · rw [if_neg h, List.count_cons_of_ne (by simpa using h), ← ih]
      split
      · rename_i e; exact absurd e (cutL_ne c l)
      · rename_i e; rw [e]; rfl
theorem findB_spec (c : UInt8) : ∀ (l : List UInt8) (i : Nat), (c ∉ l ∧ findB c l (i : Int) = -1) ∨ ∃ k : Nat, c ∉ l.take k ∧ l[k]? = some c ∧ findB c l (i : Int) = ((i + k : Nat) : Int)
  | [], i => .inl ⟨by simp, rfl⟩
  | x :: l, i => by
    unfold findB
    cases h : x == c with
    | true => exact .inr ⟨0, by simp, by simp at h; simp [h], by simp⟩
    | false =>
      have hx : x ≠ c := by simpa using h
      simp only
      rw [show (i : Int) + 1 = ((i + 1 : Nat) : Int) by omega]
      rcases findB_spec c l (i + 1) with ⟨h1, h2⟩ | ⟨k, h1, h2, h3⟩
      · exact .inl ⟨by simp only [List.mem_cons, not_or]; exact ⟨fun e => hx e.symm, h1⟩, h2⟩
      · exact .inr ⟨k + 1, by simp only [List.take_succ_cons, List.mem_cons, not_or]; exact ⟨fun e => hx e.symm, h1⟩, by simpa using h2, by rw [h3]; omega⟩
theorem index_eq (x : List UInt8) (c : UInt8) : s_strings_Index (x, ([c], ())) = some (findB c x 0, ()) := rfl
theorem split_loop (c : UInt8) (M : Nat) (hM : M < 1000000) : ∀ (d n j : Nat) (x : List UInt8) (done : List (List UInt8)), x.length < 1000000 → d < n → j + d = M → x.count c = d → done.length = j →
    strings_genSplit.p2 fuel n x [c] 0 (M : Int) (done ++ List.replicate (d + 1) []) (j : Int) = some (done ++ cutL c x, ())
  | d, n + 1, j, x, done, hx, hn, hj, hc, hd => by
    have e1 : strings_genSplit.p2 fuel (n + 1) x [c] 0 (M : Int) (done ++ List.replicate (d + 1) []) (j : Int) = strings_genSplit.t2 (strings_genSplit.p3 fuel) (strings_genSplit.p2 fuel n) x [c] 0 (M : Int) (done ++ List.replicate (d + 1) []) (j : Int) := rfl
    rw [e1]
    unfold strings_genSplit.t2
    have hlen : (done ++ List.replicate (d + 1) ([] : List UInt8)).length = M + 1 := by rw [List.length_append, List.length_replicate]; omega
    cases d with
    | zero =>
      have hjM : j = M := by omega
      subst hjM
      rw [iteB_neg lt_no]
      show strings_genSplit.t3 x (done ++ [[]]) (j : Int) = _
      unfold strings_genSplit.t3
      have hs : (done ++ [([] : List UInt8)]).set j x = done ++ [x] := by
        rw [← hd, List.set_append_right _ _ (by omega), Nat.sub_self]
        rfl
      have hc0 : c ∉ x := List.count_eq_zero.1 hc
      have hl1 : (done ++ [([] : List UInt8)]).length = j + 1 := by simp [hd]
      have hl2 : (done ++ [x]).length = j + 1 := by simp [hd]
      rw [withinR_nat (by rw [hl1]; omega), w64_succ (by omega), hs, mustR_dec (by omega), mustR_dec (by rw [hl2]; omega), Int.toNat_natCast, cutL_none c x hc0, List.take_of_length_le (by rw [hl2]; omega)]
      rfl
    | succ d =>
      have hjM : j < M := by omega
      rw [iteB_pos (lt_dec hjM), index_eq, bindR_val]
      rcases findB_spec c x 0 with ⟨h1, h2⟩ | ⟨k, h1, h2, h3⟩
      · rw [List.count_eq_zero.2 h1] at hc; omega
      · have hk : k < x.length := (List.getElem?_eq_some_iff.1 h2).1
        rw [Nat.zero_add] at h3
        have h3 : findB c x 0 = (k : Int) := h3
        simp only [h3]
        have hw0 : w64 ((k : Int) + 0) = (k : Int) := w64_id (by omega) (by omega)
        have hw1 : w64 ((k : Int) + ((List.length [c] : Nat) : Int)) = ((k + 1 : Nat) : Int) := by
          have : ((List.length [c] : Nat) : Int) = 1 := rfl
          rw [this]; exact w64_succ (by omega)
        rw [iteB_neg (decide_eq_false (by omega)), hw0, hw1, mustR_dec (by omega), mustR_dec (by omega), withinR_nat (by rw [hlen]; omega), mustR_dec (by omega), mustR_dec (by omega), Int.toNat_natCast, Int.toNat_natCast, List.take_length, w64_succ (by omega), List.drop_zero]
        have hs : (done ++ List.replicate (d + 1 + 1) ([] : List UInt8)).set j (x.take k) = (done ++ [x.take k]) ++ List.replicate (d + 1) [] := by
          rw [← hd, List.set_append_right _ _ (by omega), Nat.sub_self, List.replicate_succ]
          simp
        rw [hs]
        have hcut := cutL_at h1 h2
        have hcnt : (x.drop (k + 1)).count c = d := by
          have e := congrArg List.length hcut
          rw [List.length_cons, cutL_len, cutL_len] at e
          omega
        rw [split_loop c M hM d n (j + 1) (x.drop (k + 1)) (done ++ [x.take k]) (by rw [List.length_drop]; omega) (by omega) (by omega) hcnt (by simp [hd]), hcut]
        simp
theorem split_eq (c : UInt8) (s : List UInt8) (hs : s.length < 100000) : s_strings_Split (s, ([c], ())) = some (cutL c s, ()) := by
  have hle : s.count c ≤ s.length := List.count_le_length
  have e : s_strings_Split (s, ([c], ())) = bindR (s_strings_genSplit (s, ([c], (0, (-1, ()))))) fun r1 => some (r1.1, ()) := rfl
  have hcnt : countB c s 0 = ((s.count c : Nat) : Int) := by rw [countB_from]; omega
  have e2 : s_strings_genSplit (s, ([c], (0, (-1, ())))) = strings_genSplit.p1 fuel s [c] 0 (w64 (countB c s 0 + 1)) := rfl
  have hmin : minI ((s.count c + 1 : Nat) : Int) ((s.length + 1 : Nat) : Int) = ((s.count c + 1 : Nat) : Int) := by unfold minI; omega
  have e3 : strings_genSplit.p1 fuel s [c] 0 ((s.count c + 1 : Nat) : Int) = strings_genSplit.p2 fuel fuel s [c] 0 ((s.count c : Nat) : Int) (List.replicate (s.count c + 1) []) 0 := by
    show strings_genSplit.t1 (strings_genSplit.p2 fuel fuel) s [c] 0 ((s.count c + 1 : Nat) : Int) = _
    unfold strings_genSplit.t1
    rw [w64_succ (by omega), hmin, mustR_dec (by omega)]
    have : w64 (((s.count c + 1 : Nat) : Int) - 1) = ((s.count c : Nat) : Int) := by rw [w64_id (by omega) (by omega)]; omega
    rw [this, Int.toNat_natCast]
  rw [e, e2, hcnt, w64_succ (by omega), e3]
  have := split_loop c (s.count c) (by omega) (s.count c) fuel 0 s [] (by omega) (by have := fuel_gt (s.count c) (by omega); omega) (by omega) rfl rfl
  rw [List.nil_append, List.nil_append] at this
  have h0 : strings_genSplit.p2 fuel fuel s [c] 0 ((s.count c : Nat) : Int) (List.replicate (s.count c + 1) []) 0 = some (cutL c s, ()) := this
  rw [h0]; rfl
end Go.Proofs.YtogipciicekmoaaGreatDoor.Vm.Gz
namespace Go.Proofs.YtogipciicekmoaaGreatDoor.Vm.Gz
open Go Go.Proofs.YtogipciicekmoaaGreatDoor.Vm
set_option linter.unusedVariables false
set_option maxRecDepth 100000
theorem byteAt_eq {s : List UInt8} {i : Nat} (h : i < s.length) : byteAt s i = ((s[i]).toNat : Int) := by
  unfold byteAt
  rw [List.getD_eq_getElem?_getD, List.getElem?_eq_getElem h]
  rfl
theorem take_succ_mem {c : UInt8} {t : List UInt8} {k : Nat} (hk : k < t.length) (h : c ∉ t.take k) (hc : t[k] ≠ c) : c ∉ t.take (k + 1) := by
  rw [List.take_add_one, List.getElem?_eq_getElem hk]
  simp only [Option.toList_some, List.mem_append, List.mem_singleton, not_or]
  exact ⟨h, fun e => hc e.symm⟩
theorem rcut_loop (c : UInt8) (s : List UInt8) (hs : s.length < 100000) : ∀ (d n i fr : Nat) (l : List (List UInt8)), i + d = s.length → d + 1 < n → fr ≤ i → l.length ≤ i → l ++ cutL c (s.drop fr) = cutL c s → c ∉ (s.drop fr).take (i - fr) →
    ref10_cut.p1 fuel n s (c.toNat : Int) l (fr : Int) (i : Int) = some (cutL c s, ())
  | d, n + 1, i, fr, l, hi, hn, hf, hl, hcut, hno => by
    have e1 : ref10_cut.p1 fuel (n + 1) s (c.toNat : Int) l (fr : Int) (i : Int) = ref10_cut.t1 (ref10_cut.p2 fuel (ref10_cut.p1 fuel n)) (ref10_cut.p3 fuel) s (c.toNat : Int) l (fr : Int) (i : Int) := rfl
    rw [e1]
    unfold ref10_cut.t1
    rw [iteB_pos (decide_eq_true (by omega))]
    have add : ref10_cut.p2 fuel (ref10_cut.p1 fuel n) s (c.toNat : Int) l (fr : Int) (i : Int) true = ref10_cut.p1 fuel n s (c.toNat : Int) (l ++ [(s.drop fr).take (i - fr)]) ((i + 1 : Nat) : Int) ((i + 1 : Nat) : Int) := by
      show ref10_cut.t2 (ref10_cut.p4 fuel (ref10_cut.p1 fuel n)) s (c.toNat : Int) l (fr : Int) (i : Int) true = _
      unfold ref10_cut.t2
      have hd : List.drop fr (List.take i s) = (s.drop fr).take (i - fr) := by rw [List.drop_take]
      rw [iteB_true, mustR_dec (by omega), mustR_dec (by omega), mustR_dec (by omega), mustR_dec (by simp only [Int.toNat_natCast]; omega)]
      simp only [Int.toNat_natCast, hd]
      rw [mustR_pos (room_ok (by simp; omega)), w64_succ (by omega)]
      show ref10_cut.p1 fuel n s (c.toNat : Int) _ _ (w64 ((i : Int) + 1)) = _
      rw [w64_succ (by omega)]
    by_cases he : i = s.length
    · rw [iteB_pos (decide_eq_true (by omega)), add]
      have hd : d = 0 := by omega
      have hcl : cutL c (s.drop fr) = [(s.drop fr).take (i - fr)] := by
        have : (s.drop fr).take (i - fr) = s.drop fr := List.take_of_length_le (by rw [List.length_drop]; omega)
        rw [this] at hno ⊢
        exact cutL_none c _ hno
      rw [hcl] at hcut
      cases n with
      | zero => omega
      | succ n =>
        have e2 : ref10_cut.p1 fuel (n + 1) s (c.toNat : Int) (l ++ [(s.drop fr).take (i - fr)]) ((i + 1 : Nat) : Int) ((i + 1 : Nat) : Int) = ref10_cut.t1 (ref10_cut.p2 fuel (ref10_cut.p1 fuel n)) (ref10_cut.p3 fuel) s (c.toNat : Int) (l ++ [(s.drop fr).take (i - fr)]) ((i + 1 : Nat) : Int) ((i + 1 : Nat) : Int) := rfl
        rw [e2]
        unfold ref10_cut.t1
        rw [iteB_neg (decide_eq_false (by omega))]
        show some (l ++ [(s.drop fr).take (i - fr)], ()) = _
        rw [hcut]
    · have hlt : i < s.length := by omega
      have hdd : d ≠ 0 := by omega
      obtain ⟨d', rfl⟩ : ∃ d', d = d' + 1 := ⟨d - 1, by omega⟩
      rw [iteB_neg (decide_eq_false (by omega)), withinR_nat hlt, byteAt_eq hlt]
      have hk : i - fr < (s.drop fr).length := by rw [List.length_drop]; omega
      have hge : (s.drop fr)[i - fr] = s[i] := by rw [List.getElem_drop]; congr 1; omega
      by_cases hc : s[i] = c
      · rw [hc, decide_eq_true rfl, add]
        have hat : (s.drop fr)[i - fr]? = some c := by rw [List.getElem?_eq_getElem hk, hge, hc]
        have hcl := cutL_at hno hat
        have hdr : List.drop (i - fr + 1) (s.drop fr) = s.drop (i + 1) := by rw [List.drop_drop]; congr 1; omega
        rw [hdr] at hcl
        rw [hcl] at hcut
        exact rcut_loop c s hs d' n (i + 1) (i + 1) _ (by omega) (by omega) (Nat.le_refl _) (by simp; omega) (by rw [← hcut]; simp) (by simp)
      · have hcn : decide (((s[i]).toNat : Int) = (c.toNat : Int)) = false := decide_eq_false fun e => hc (ext8 (by omega))
        rw [hcn]
        have skip : ref10_cut.p2 fuel (ref10_cut.p1 fuel n) s (c.toNat : Int) l (fr : Int) (i : Int) false = ref10_cut.p1 fuel n s (c.toNat : Int) l (fr : Int) ((i + 1 : Nat) : Int) := by
          show ref10_cut.p1 fuel n s (c.toNat : Int) l (fr : Int) (w64 ((i : Int) + 1)) = _
          rw [w64_succ (by omega)]
        rw [skip]
        refine rcut_loop c s hs d' n (i + 1) fr l (by omega) (by omega) (by omega) (by omega) hcut ?_
        have : i + 1 - fr = i - fr + 1 := by omega
        rw [this]
        exact take_succ_mem hk hno (by rw [hge]; exact hc)
theorem rcut_eq (c : UInt8) (s : List UInt8) (hs : s.length < 100000) : s_ref10_cut (s, ((c.toNat : Int), ())) = some (cutL c s, ()) := by
  have e : s_ref10_cut (s, ((c.toNat : Int), ())) = ref10_cut.p1 fuel fuel s (c.toNat : Int) [] ((0 : Nat) : Int) ((0 : Nat) : Int) := rfl
  rw [e]
  exact rcut_loop c s hs s.length fuel 0 0 [] (by omega) (by have := fuel_gt (s.length + 1) (by omega); omega) (Nat.le_refl _) (Nat.le_refl _) (by simp) (by simp)
def wd (p : List UInt8) : Bool := !decide (p = [])
def Wd (s : List UInt8) : List (List UInt8) := (cutL 32 s).filter wd
theorem filter_take {α : Type} (f : α → Bool) (l : List α) (i : Nat) (h : i < l.length) : (l.take (i + 1)).filter f = (l.take i).filter f ++ (match f l[i] with | true => [l[i]] | false => []) := by
  rw [List.take_add_one, List.getElem?_eq_getElem h, List.filter_append]
  cases e : f l[i] <;> simp [e]
theorem filter_len {α : Type} (f : α → Bool) (l : List α) (i : Nat) : ((l.take i).filter f).length ≤ i := Nat.le_trans (List.length_filter_le _ _) (List.length_take_le _ _)
theorem getD_at {α : Type} {l : List α} {i : Nat} (d : α) (h : i < l.length) : l.getD i d = l[i] := by
  rw [List.getD_eq_getElem?_getD, List.getElem?_eq_getElem h]; rfl
theorem cutL_small (c : UInt8) (s : List UInt8) : (cutL c s).length ≤ s.length + 1 := by
  rw [cutL_len]; have : s.count c ≤ s.length := List.count_le_length; omega
theorem words_eq (s : List UInt8) (hs : s.length < 100000) : s_gram_words (s, ()) = some (Wd s, ()) := by
  have e : s_gram_words (s, ()) = bindR (s_strings_Split (s, ([32], ()))) fun r1 => gram_words.p1 fuel fuel [] r1.1 ((r1.1.length : Nat) : Int) ((0 : Nat) : Int) := rfl
  rw [e, split_eq 32 s hs, bindR_val]
  simp only
  have hsm := cutL_small 32 s
  unfold Wd
  generalize cutL 32 s = L at hsm ⊢
  obtain ⟨o, ho, e2⟩ := loopAll (N := L.length) (fun n o i => gram_words.p1 fuel n o L ((L.length : Nat) : Int) i) (fun o => some (o, ())) (fun i o => o = (L.take i).filter wd) [] 0 (Nat.zero_le _) rfl (by omega)
    (fun n i o hi ho => by
      have e1 : gram_words.p1 fuel (n + 1) o L ((L.length : Nat) : Int) (i : Int) = gram_words.t1 (gram_words.p2 fuel (gram_words.p1 fuel n)) (gram_words.p3 fuel) o L ((L.length : Nat) : Int) (i : Int) := rfl
      unfold gram_words.t1 at e1
      have hol : o.length ≤ i := by rw [ho]; exact filter_len _ _ _
      rw [iteB_pos (lt_dec hi), withinR_nat hi, getD_at _ hi] at e1
      have hf := filter_take wd L i hi
      rw [← ho] at hf
      cases hw : wd L[i] with
      | true =>
        rw [hw] at hf
        have : (!decide (L[i] = [])) = true := hw
        rw [this, iteB_true, mustR_pos (room_ok (by simp; omega))] at e1
        exact ⟨_, hf.symm, e1⟩
      | false =>
        rw [hw] at hf
        have : (!decide (L[i] = [])) = false := hw
        rw [this, iteB_false] at e1
        exact ⟨o, by rw [hf]; simp, e1⟩)
    (fun n o ho => by
      have e1 : gram_words.p1 fuel (n + 1) o L ((L.length : Nat) : Int) (L.length : Int) = gram_words.t1 (gram_words.p2 fuel (gram_words.p1 fuel n)) (gram_words.p3 fuel) o L ((L.length : Nat) : Int) (L.length : Int) := rfl
      unfold gram_words.t1 at e1
      rw [e1, iteB_neg lt_no]
      rfl)
  rw [List.take_length] at ho
  rw [← ho]
  exact e2
theorem letB_int (n : Nat) : letB n = (decide ((97 : Int) ≤ (n : Int)) && decide ((n : Int) ≤ 122) || decide ((65 : Int) ≤ (n : Int)) && decide ((n : Int) ≤ 90)) := by
  unfold letB
  rw [decide_eq_decide.2 (show (97 ≤ n) ↔ (97 : Int) ≤ (n : Int) by omega), decide_eq_decide.2 (show (n ≤ 122) ↔ (n : Int) ≤ 122 by omega), decide_eq_decide.2 (show (65 ≤ n) ↔ (65 : Int) ≤ (n : Int) by omega), decide_eq_decide.2 (show (n ≤ 90) ↔ (n : Int) ≤ 90 by omega)]
theorem rname_step (n i : Nat) (s : List UInt8) (hi : i < s.length) (hs : s.length < 100000) : ref10_Name.p1 fuel (n + 1) s (i : Int) = (match nmB (decide (i = 0)) (s[i]).toNat with | true => ref10_Name.p1 fuel n s ((i + 1 : Nat) : Int) | false => some (false, ())) := by
  have e1 : ref10_Name.p1 fuel (n + 1) s (i : Int) = ref10_Name.t1 (ref10_Name.p2 fuel (ref10_Name.p1 fuel n)) (ref10_Name.p3 fuel) s (i : Int) := rfl
  rw [e1]
  unfold ref10_Name.t1
  rw [iteB_pos (lt_dec hi), withinR_nat hi, byteAt_eq hi]
  generalize (s[i]).toNat = m
  have e4 : ∀ b, ref10_Name.p4 fuel (ref10_Name.p1 fuel n) s (i : Int) b = iteB b (some (false, ())) (ref10_Name.p1 fuel n s ((i + 1 : Nat) : Int)) := fun b => by
    show iteB b (some (false, ())) (ref10_Name.p1 fuel n s (w64 ((i : Int) + 1))) = _
    rw [w64_succ (by omega)]
  have e2 : ∀ b, ref10_Name.p2 fuel (ref10_Name.p1 fuel n) s (i : Int) (m : Int) b = iteB (notB b) (iteB (decide ((i : Int) = 0)) (ref10_Name.p4 fuel (ref10_Name.p1 fuel n) s (i : Int) true) (iteB (!decide ((m : Int) = 95)) (iteB (decide ((48 : Int) ≤ (m : Int))) (ref10_Name.p4 fuel (ref10_Name.p1 fuel n) s (i : Int) (notB (decide ((m : Int) ≤ 57)))) (ref10_Name.p4 fuel (ref10_Name.p1 fuel n) s (i : Int) true)) (ref10_Name.p4 fuel (ref10_Name.p1 fuel n) s (i : Int) false))) (ref10_Name.p4 fuel (ref10_Name.p1 fuel n) s (i : Int) false) := fun b => rfl
  have hl := letB_int m
  have e3 : iteB (decide ((97 : Int) ≤ (m : Int))) (iteB (decide ((m : Int) ≤ 122)) (ref10_Name.p2 fuel (ref10_Name.p1 fuel n) s (i : Int) (m : Int) true) (iteB (decide ((65 : Int) ≤ (m : Int))) (ref10_Name.p2 fuel (ref10_Name.p1 fuel n) s (i : Int) (m : Int) (decide ((m : Int) ≤ 90))) (ref10_Name.p2 fuel (ref10_Name.p1 fuel n) s (i : Int) (m : Int) false)))
      (iteB (decide ((65 : Int) ≤ (m : Int))) (ref10_Name.p2 fuel (ref10_Name.p1 fuel n) s (i : Int) (m : Int) (decide ((m : Int) ≤ 90))) (ref10_Name.p2 fuel (ref10_Name.p1 fuel n) s (i : Int) (m : Int) false)) = ref10_Name.p2 fuel (ref10_Name.p1 fuel n) s (i : Int) (m : Int) (letB m) := by
    rw [hl]
    cases decide ((97 : Int) ≤ (m : Int)) <;> cases decide ((m : Int) ≤ 122) <;> cases decide ((65 : Int) ≤ (m : Int)) <;> cases decide ((m : Int) ≤ 90) <;> rfl
  refine e3.trans ?_
  rw [e2]
  simp only [e4]
  have hi0 : decide ((i : Int) = 0) = decide (i = 0) := decide_eq_decide.2 (by omega)
  have h95 : decide ((m : Int) = 95) = decide (m = 95) := decide_eq_decide.2 (by omega)
  have h48 : decide ((48 : Int) ≤ (m : Int)) = decide (48 ≤ m) := decide_eq_decide.2 (by omega)
  have h57 : decide ((m : Int) ≤ 57) = decide (m ≤ 57) := decide_eq_decide.2 (by omega)
  rw [hi0, h95, h48, h57]
  unfold nmB digB
  cases letB m <;> cases decide (i = 0) <;> cases decide (m = 95) <;> cases decide (48 ≤ m) <;> cases decide (m ≤ 57) <;> rfl
theorem rname_loop (s : List UInt8) (hs : s.length < 100000) : ∀ (d n i : Nat), i + d = s.length → d < n → ref10_Name.p1 fuel n s (i : Int) = some (nmAll (decide (i = 0)) (s.drop i) && (!decide (s = []) && decide (s.length ≤ 16)), ())
  | 0, n + 1, i, hi, _ => by
    have : i = s.length := by omega
    subst this
    have e1 : ref10_Name.p1 fuel (n + 1) s (s.length : Int) = ref10_Name.t1 (ref10_Name.p2 fuel (ref10_Name.p1 fuel n)) (ref10_Name.p3 fuel) s (s.length : Int) := rfl
    rw [e1]
    unfold ref10_Name.t1
    rw [iteB_neg lt_no]
    show ref10_Name.t3 s = _
    unfold ref10_Name.t3
    rw [List.drop_length]
    cases s with
    | nil => rfl
    | cons x s =>
      rw [iteB_pos (decide_eq_true (by simp only [List.length_cons]; omega))]
      have h1 : decide (x :: s = []) = false := by simp
      have h2 : decide ((((x :: s).length : Nat) : Int) < 17) = decide ((x :: s).length ≤ 16) := decide_eq_decide.2 (by omega)
      rw [h1, h2]
      rfl
  | d + 1, n + 1, i, hi, hn => by
    have hlt : i < s.length := by omega
    rw [rname_step n i s hlt hs, nmAll_drop s i s[i] (List.getElem?_eq_getElem hlt)]
    cases nmB (decide (i = 0)) (s[i]).toNat with
    | true =>
      simp only [Bool.true_and]
      exact rname_loop s hs d n (i + 1) (by omega) (by omega)
    | false => rfl
  | _, 0, _, _, hn => by omega
theorem rname_eq (s : List UInt8) (hs : s.length < 100000) : s_ref10_Name (s, ()) = some (nameB s, ()) := by
  have e : s_ref10_Name (s, ()) = ref10_Name.p1 fuel fuel s ((0 : Nat) : Int) := rfl
  rw [e, rname_loop s hs s.length fuel 0 (by omega) (by have := fuel_gt s.length (by omega); omega)]
  unfold nameB
  rw [Bool.and_assoc]
  rfl
end Go.Proofs.YtogipciicekmoaaGreatDoor.Vm.Gz
namespace Go.Proofs.YtogipciicekmoaaGreatDoor.Vm.Gz
open Go Go.Proofs.YtogipciicekmoaaGreatDoor.Vm
set_option linter.unusedVariables false
set_option maxRecDepth 100000
theorem idx_gen {β : Type} (l : List β) (d0 : β) (g : β → Option (Bool × Unit)) (P : β → Bool) (hg : ∀ x ∈ l, g x = some (P x, ())) (F : Nat → Int → Option (Int × Unit))
    (hF : ∀ n (i : Nat), i < l.length → F (n + 1) (i : Int) = bindR (g (l.getD i d0)) fun r => iteB r.1 (some ((i : Int), ())) (F n (w64 ((i : Int) + 1)))) (hE : ∀ n, F (n + 1) (l.length : Int) = some (-1, ())) (hl : l.length < 1000000) :
    ∃ r : Int, F fuel ((0 : Nat) : Int) = some (r, ()) ∧ decide (0 ≤ r) = l.any P := by
  have loop : ∀ (d n i : Nat), i + d = l.length → d < n → ∃ r : Int, F n (i : Int) = some (r, ()) ∧ decide (0 ≤ r) = (l.drop i).any P := by
    intro d
    induction d with
    | zero =>
      intro n i hi hn
      cases n with
      | zero => omega
      | succ n =>
        have : i = l.length := by omega
        subst this
        exact ⟨-1, hE n, by simp⟩
    | succ d ih =>
      intro n i hi hn
      cases n with
      | zero => omega
      | succ n =>
        have hlt : i < l.length := by omega
        have hm : l[i] ∈ l := List.getElem_mem hlt
        rw [hF n i hlt, getD_at d0 hlt, hg _ hm, bindR_val, List.drop_eq_getElem_cons hlt, List.any_cons]
        cases P l[i] with
        | true => exact ⟨i, rfl, by simp⟩
        | false =>
          rw [iteB_false, w64_succ (by omega)]
          obtain ⟨r, h1, h2⟩ := ih n (i + 1) (by omega) (by omega)
          exact ⟨r, h1, by simpa using h2⟩
  have := loop l.length fuel 0 (by omega) (by have := fuel_gt l.length (by omega); omega)
  simpa using this
theorem isName_eq (s : List UInt8) : s_IsName (s, ()) = some (nameB s, ()) := rfl
theorem areNames_eq (l : List (List UInt8)) (hl : l.length < 1000000) : s_gram_areNames (l, ()) = some (l.all nameB, ()) := by
  have e : s_gram_areNames (l, ()) = bindR (bindR (slices_IndexFuncxxx.p1 fuel fuel l () ((l.length : Nat) : Int) ((0 : Nat) : Int)) fun r1 => some (decide ((0 : Int) ≤ r1.1), ())) fun r1 => some (notB r1.1, ()) := rfl
  obtain ⟨r, h1, h2⟩ := idx_gen l [] (fun x => s_gram_areNames_1 (x, ())) (fun x => !nameB x) (fun x _ => rfl) (fun n i => slices_IndexFuncxxx.p1 fuel n l () ((l.length : Nat) : Int) i)
    (fun n i hi => by
      have e1 : slices_IndexFuncxxx.p1 fuel (n + 1) l () ((l.length : Nat) : Int) (i : Int) = slices_IndexFuncxxx.t1 (slices_IndexFuncxxx.p1 fuel n) (slices_IndexFuncxxx.p2 fuel) l () ((l.length : Nat) : Int) (i : Int) := rfl
      unfold slices_IndexFuncxxx.t1 at e1
      rw [iteB_pos (lt_dec hi), withinR_nat hi] at e1
      exact e1)
    (fun n => by
      have e1 : slices_IndexFuncxxx.p1 fuel (n + 1) l () ((l.length : Nat) : Int) (l.length : Int) = slices_IndexFuncxxx.t1 (slices_IndexFuncxxx.p1 fuel n) (slices_IndexFuncxxx.p2 fuel) l () ((l.length : Nat) : Int) (l.length : Int) := rfl
      unfold slices_IndexFuncxxx.t1 at e1
      rw [iteB_neg lt_no] at e1
      exact e1) hl
  rw [e, h1, bindR_val, bindR_val]
  simp only [h2, notB_eq]
  congr 2
  rw [List.all_eq_not_any_not]
theorem rnames_eq (l : List (List UInt8)) (hl : l.length < 1000000) (hs : ∀ p ∈ l, p.length < 100000) : s_ref10_names (l, ()) = some (l.all nameB, ()) := by
  have e : s_ref10_names (l, ()) = ref10_names.p1 fuel fuel l ((0 : Nat) : Int) := rfl
  have loop : ∀ (d n i : Nat), i + d = l.length → d < n → ref10_names.p1 fuel n l (i : Int) = some ((l.drop i).all nameB, ()) := by
    intro d
    induction d with
    | zero =>
      intro n i hi hn
      cases n with
      | zero => omega
      | succ n =>
        have : i = l.length := by omega
        subst this
        have e1 : ref10_names.p1 fuel (n + 1) l (l.length : Int) = ref10_names.t1 (ref10_names.p1 fuel n) (ref10_names.p2 fuel) l (l.length : Int) := rfl
        unfold ref10_names.t1 at e1
        rw [e1, iteB_neg lt_no, List.drop_length]
        rfl
    | succ d ih =>
      intro n i hi hn
      cases n with
      | zero => omega
      | succ n =>
        have hlt : i < l.length := by omega
        have e1 : ref10_names.p1 fuel (n + 1) l (i : Int) = ref10_names.t1 (ref10_names.p1 fuel n) (ref10_names.p2 fuel) l (i : Int) := rfl
        unfold ref10_names.t1 at e1
        rw [e1, iteB_pos (lt_dec hlt), withinR_nat hlt, getD_at _ hlt, rname_eq _ (hs _ (List.getElem_mem hlt)), bindR_val, List.drop_eq_getElem_cons hlt, List.all_cons]
        cases nameB l[i] with
        | true => rw [notB_eq, Bool.not_true, iteB_false, w64_succ (by omega), ih n (i + 1) (by omega) (by omega)]; simp
        | false => rfl
  rw [e, loop l.length fuel 0 (by omega) (by have := fuel_gt l.length (by omega); omega), List.drop_zero]
def wF (s : List UInt8) : List UInt8 := s.takeWhile (· != 32)
def wR (s : List UInt8) : List UInt8 := s.dropWhile (· != 32)
theorem wFR (s : List UInt8) : wF s ++ wR s = s := List.takeWhile_append_dropWhile
theorem trimB_len (c : UInt8) : ∀ l, (trimB c l).length ≤ l.length
  | [] => Nat.le_refl _
  | x :: l => by
    unfold trimB
    cases x == c with
    | true => have := trimB_len c l; simp only [List.length_cons]; omega
    | false => exact Nat.le_refl _
theorem wR_len (l : List UInt8) : (wR l).length ≤ l.length := by
  have := congrArg List.length (wFR l)
  rw [List.length_append] at this
  omega
theorem wR_cons (x : UInt8) (l : List UInt8) : wR (x :: l) = if x = 32 then x :: l else wR l := by
  unfold wR
  rw [List.dropWhile_cons]
  by_cases h : x = 32
  · rw [if_pos h, if_neg (by simp [h])]
  · rw [if_neg h, if_pos (by simpa using h)]
theorem wF_cons (x : UInt8) (l : List UInt8) : wF (x :: l) = if x = 32 then [] else x :: wF l := by
  unfold wF
  rw [List.takeWhile_cons]
  by_cases h : x = 32
  · rw [if_pos h, if_neg (by simp [h])]
  · rw [if_neg h, if_pos (by simpa using h)]
theorem trimB_cons (x : UInt8) (l : List UInt8) : trimB 32 (x :: l) = if x = 32 then trimB 32 l else x :: l := by
  show (match x == 32 with | true => trimB 32 l | false => x :: l) = _
  by_cases h : x = 32
  · rw [if_pos h, beq_iff_eq.2 h]
  · rw [if_neg h, beq_eq_false_iff_ne.2 h]
def nxt (s : List UInt8) : List UInt8 := wR (trimB 32 s)
def u2 (s : List UInt8) : List UInt8 := nxt s
def u3 (s : List UInt8) : List UInt8 := trimB 32 (u2 s)
def u4 (s : List UInt8) : List UInt8 := nxt (u2 s)
end Go.Proofs.YtogipciicekmoaaGreatDoor.Vm.Gz
namespace Go.Proofs.YtogipciicekmoaaGreatDoor.Vm.Gz
open Go Go.Proofs.YtogipciicekmoaaGreatDoor.Vm
set_option linter.unusedVariables false
set_option maxRecDepth 100000
theorem word_split (x : List UInt8) : (32 ∉ x ∧ wF x = x ∧ wR x = []) ∨ ∃ a b, 32 ∉ a ∧ x = a ++ 32 :: b ∧ wF x = a ∧ wR x = 32 :: b := by
  induction x with
  | nil => exact .inl ⟨by simp, rfl, rfl⟩
  | cons y x ih =>
    rw [wF_cons, wR_cons]
    by_cases h : y = 32
    · subst h
      exact .inr ⟨[], x, by simp, rfl, by simp, by simp⟩
    · simp only [if_neg h]
      rcases ih with ⟨h1, h2, h3⟩ | ⟨a, b, h1, h2, h3, h4⟩
      · exact .inl ⟨by simp only [List.mem_cons, not_or]; exact ⟨fun e => h e.symm, h1⟩, by rw [h2], h3⟩
      · exact .inr ⟨y :: a, b, by simp only [List.mem_cons, not_or]; exact ⟨fun e => h e.symm, h1⟩, by rw [h2]; rfl, by rw [h3], h4⟩
theorem cut_eq (x : List UInt8) (hx : x.length < 1000000) : s_strings_Cut (x, ([32], ())) = some ((wF x, ((wR x).tail, !decide (wR x = []))), ()) := by
  have e : s_strings_Cut (x, ([32], ())) = bindR (internal_stringslite_Cut.t0 (x, ([32], ()))) fun r1 => some ((r1.1.1, (r1.1.2.1, r1.1.2.2)), ()) := rfl
  have ei : s_stringslite_Index (x, ([32], ())) = some (findB 32 x 0, ()) := rfl
  rw [e]
  unfold internal_stringslite_Cut.t0
  simp only [ei, bindR_val]
  rcases findB_spec 32 x 0 with ⟨h1, h2⟩ | ⟨k, h1, h2, h3⟩
  · rw [show findB 32 x 0 = -1 from h2, iteB_neg (by decide), bindR_val]
    rcases word_split x with ⟨k1, k2, k3⟩ | ⟨a, b, k1, k2, k3, k4⟩
    · rw [k2, k3]; rfl
    · exact absurd (by rw [k2]; simp) h1
  · rw [Nat.zero_add] at h3
    have h3 : findB 32 x 0 = (k : Int) := h3
    have hk : k < x.length := (List.getElem?_eq_some_iff.1 h2).1
    have hw1 : w64 ((k : Int) + ((List.length ([32] : List UInt8) : Nat) : Int)) = ((k + 1 : Nat) : Int) := w64_succ (by omega)
    simp only [h3]
    rw [iteB_pos (decide_eq_true (by omega)), mustR_dec (by omega), mustR_dec (by omega), mustR_dec (by rw [hw1]; omega), mustR_dec (by rw [hw1]; omega), hw1, bindR_val, Int.toNat_natCast, Int.toNat_natCast, List.take_length, List.drop_zero]
    rcases word_split x with ⟨k1, k2, k3⟩ | ⟨a, b, k1, k2, k3, k4⟩
    · exact absurd (List.mem_of_getElem? h2) k1
    · have hka : k = a.length := by
        rcases Nat.lt_trichotomy k a.length with q | q | q
        · rw [k2, List.getElem?_append_left q] at h2
          exact absurd (List.mem_of_getElem? h2) k1
        · exact q
        · exfalso
          apply h1
          have : (x.take k)[a.length]? = some 32 := by
            rw [List.getElem?_take_of_lt q, k2, List.getElem?_append_right (Nat.le_refl _)]
            simp
          exact List.mem_of_getElem? this
      rw [k3, k4, k2, hka]
      have t1 : (a ++ 32 :: b).take a.length = a := List.take_left' rfl
      have t2 : (a ++ 32 :: b).drop (a.length + 1) = b := by
        rw [show a ++ 32 :: b = (a ++ [32]) ++ b by simp, List.drop_left']
        simp
      rw [t1, t2]
      rfl
theorem trim_tail (x : List UInt8) : trimB 32 (wR x).tail = trimB 32 (wR x) := by
  rcases word_split x with ⟨k1, k2, k3⟩ | ⟨a, b, k1, k2, k3, k4⟩
  · rw [k3]; rfl
  · rw [k4]; rfl
theorem trimL_eq (x : List UInt8) : s_TrimLeft (x, ([32], ())) = some (trimB 32 x, ()) := rfl
theorem rest_eq (s : List UInt8) (hs : s.length < 100000) : s_gram_rest (s, ()) = some ((wF (u3 s), ((u4 s).tail, !decide ((u4 s).tail = []))), ()) := by
  have e : s_gram_rest (s, ()) = gram_rest.t0 (s, ()) := rfl
  have l1 := trimB_len 32 s
  have l2 := wR_len (trimB 32 s)
  have l3 := trimB_len 32 (wR (trimB 32 s))
  rw [e]
  unfold gram_rest.t0
  simp only [trimL_eq, bindR_val, cut_eq _ (show (trimB 32 s).length < 1000000 by omega), trim_tail]
  rw [cut_eq _ (by omega)]
  simp only [bindR_val]
  show iteB (!decide (wR (u3 s) = [])) (some ((wF (u3 s), ((u4 s).tail, !decide ((u4 s).tail = []))), ())) (some ((wF (u3 s), ((u4 s).tail, false)), ())) = _
  by_cases h : wR (u3 s) = []
  · have h4 : u4 s = [] := h
    rw [decide_eq_true h, h4]; rfl
  · rw [decide_eq_false h]; rfl
theorem trim_head (s : List UInt8) : trimB 32 s = [] ∨ ∃ x t, trimB 32 s = x :: t ∧ x ≠ 32 := by
  induction s with
  | nil => exact .inl rfl
  | cons x s ih =>
    rw [trimB_cons]
    by_cases h : x = 32
    · rw [if_pos h]; exact ih
    · rw [if_neg h]; exact .inr ⟨x, s, rfl, h⟩
theorem Wd_blank (s : List UInt8) : Wd (32 :: s) = Wd s := by
  unfold Wd
  have : cutL 32 (32 :: s) = [] :: cutL 32 s := by
    conv => lhs; unfold cutL
    rw [if_pos rfl]
  rw [this]
  rfl
theorem Wd_trim (s : List UInt8) : Wd (trimB 32 s) = Wd s := by
  induction s with
  | nil => rfl
  | cons x s ih =>
    rw [trimB_cons]
    by_cases h : x = 32
    · rw [if_pos h, ih, h, Wd_blank]
    · rw [if_neg h]
theorem Wd_word (x : UInt8) (t : List UInt8) (h : x ≠ 32) : Wd (x :: t) = wF (x :: t) :: Wd (wR (x :: t)) := by
  rcases word_split (x :: t) with ⟨k1, k2, k3⟩ | ⟨a, b, k1, k2, k3, k4⟩
  · rw [k2, k3]
    unfold Wd
    rw [cutL_none 32 _ k1]
    rfl
  · rw [k3, k4, k2, Wd_blank]
    unfold Wd
    rw [cutL_app 32 a b k1, List.filter_cons]
    have ha : a ≠ [] := by
      intro e
      subst e
      rw [List.nil_append] at k2
      exact h (List.cons.inj k2).1
    rw [if_pos (by simp [wd, ha])]
theorem tok_facts (s : List UInt8) (h : (u4 s).tail ≠ []) : ∃ w l, Wd s = w :: wF (u3 s) :: l := by
  have h4 : u4 s ≠ [] := fun e => h (by rw [e]; rfl)
  rcases trim_head s with e | ⟨x, t, e, hx⟩
  · exfalso
    apply h4
    unfold u4 u2 nxt
    rw [e]
    rfl
  · rcases trim_head (u2 s) with e2 | ⟨y, r, e2, hy⟩
    · exfalso
      apply h4
      show wR (trimB 32 (u2 s)) = []
      rw [e2]
      rfl
    · refine ⟨wF (x :: t), Wd (wR (y :: r)), ?_⟩
      rw [← Wd_trim s, e, Wd_word x t hx]
      have : wR (x :: t) = u2 s := by unfold u2 nxt; rw [e]
      rw [this, ← Wd_trim (u2 s), e2, Wd_word y r hy]
      have : u3 s = y :: r := e2
      rw [this]
theorem cutL_mem (c : UInt8) : ∀ (s p : List UInt8), p ∈ cutL c s → p.length ≤ s.length
  | [], p, h => by simp [cutL] at h; subst h; exact Nat.le_refl _
  | x :: s, p, h => by
    unfold cutL at h
    by_cases hx : x = c
    · rw [if_pos hx] at h
      rcases List.mem_cons.1 h with e | e
      · subst e; exact Nat.zero_le _
      · have := cutL_mem c s p e; simp only [List.length_cons]; omega
    · rw [if_neg hx] at h
      split at h
      · cases h
      · rename_i q ps e
        have ih := cutL_mem c s
        rw [e] at ih
        rcases List.mem_cons.1 h with e2 | e2
        · subst e2
          have := ih q (by simp)
          simp only [List.length_cons]; omega
        · have := ih p (by simp [e2])
          simp only [List.length_cons]; omega
theorem Wd_mem {s p : List UInt8} (h : p ∈ Wd s) : p ≠ [] ∧ p.length ≤ s.length := by
  unfold Wd at h
  obtain ⟨h1, h2⟩ := List.mem_filter.1 h
  exact ⟨by simpa [wd] using h2, cutL_mem 32 s p h1⟩
theorem Wd_len (s : List UInt8) : (Wd s).length ≤ s.length + 1 := Nat.le_trans (List.length_filter_le _ _) (cutL_small 32 s)
end Go.Proofs.YtogipciicekmoaaGreatDoor.Vm.Gz
namespace Go.Proofs.YtogipciicekmoaaGreatDoor.Vm.Gz
open Go Go.Proofs.YtogipciicekmoaaGreatDoor.Vm
set_option linter.unusedVariables false
set_option maxRecDepth 100000
abbrev Gm : Type := D11
abbrev Rs : Type := Int × (Gm × Bool)
def zT : D2 := ([], ([], (false, 0)))
def lastI (T : D3) (nm : List UInt8) : Nat → Option Nat
  | 0 => none
  | n + 1 => if (T.getD n zT).1 = nm then some n else lastI T nm n
def setC (T : D3) (i : Nat) (v : Int) : D3 := T.set i ((T.getD i zT).1, ((T.getD i zT).2.1, ((T.getD i zT).2.2.1, v)))
def wSkip : List UInt8 := [115, 107, 105, 112]
def tokS (l : D4) (line : List UInt8) (g : Gm) (b : Bool) : Rs :=
  if (u4 line).tail = [] then (30, (g, b)) else if nameB (l.getD 1 []) = false then (31, (g, b)) else if g.1.length = 32 then (21, (g, b))
  else (0, ((g.1 ++ [(l.getD 1 [], ((u4 line).tail, (decide (l.getD 0 [] = wSkip), 0)))], g.2), b))
def clsBad (l : D4) : Prop := l.length ≠ 3 ∨ (l.getD 2 []).length ≠ 1 ∨ byteAt (l.getD 2 []) 0 < 49 ∨ 57 < byteAt (l.getD 2 []) 0
instance (l : D4) : Decidable (clsBad l) := inferInstanceAs (Decidable (_ ∨ _))
def clsS (l : D4) (g : Gm) (b : Bool) : Rs :=
  if clsBad l then (30, (g, b)) else match lastI g.1 (l.getD 1 []) g.1.length with
    | none => (31, (g, b))
    | some i => (0, ((setC g.1 i (byteAt (l.getD 2 []) 0 - 48), g.2), b))
def staS (l : D4) (g : Gm) (b : Bool) : Rs :=
  if l.length ≠ 2 then (30, (g, b)) else if nameB (l.getD 1 []) = false then (31, (g, b)) else if b = true then (32, (g, b)) else (0, ((g.1, (l.getD 1 [], g.2.2)), true))
def rulS (l : D4) (g : Gm) (b : Bool) : Rs :=
  if l.length < 3 ∨ l.getD 2 [] ≠ [58] then (30, (g, b)) else if nameB (l.getD 1 []) = false ∨ (l.drop 3).all nameB = false then (31, (g, b)) else if 11 < l.length ∨ g.2.2.1.length = 64 then (21, (g, b))
  else (0, ((g.1, (g.2.1, (g.2.2.1 ++ [(l.getD 1 [], l.drop 3)], g.2.2.2))), b))
def arS (k : Int) (n : Nat) : Bool := decide (k = 1 ∧ (n = 2 ∨ n = 3) ∨ k = 2 ∧ n = 4 ∨ k = 3 ∧ n = 2)
def notS (k : Int) (l : D4) (g : Gm) (b : Bool) : Rs :=
  if arS k (l.length - 1) = false then (30, (g, b)) else if (l.drop 1).all nameB = false then (31, (g, b)) else if g.2.2.2.length = 16 then (21, (g, b))
  else (0, ((g.1, (g.2.1, (g.2.2.1, g.2.2.2 ++ [(k, l.drop 1)]))), b))
def wTok : List UInt8 := [116, 111, 107, 101, 110]
def wCls : List UInt8 := [99, 108, 97, 115, 115]
def wSta : List UInt8 := [115, 116, 97, 114, 116]
def wRul : List UInt8 := [114, 117, 108, 101]
def wLst : List UInt8 := [108, 105, 115, 116]
def wDel : List UInt8 := [100, 101, 108, 105, 109]
def wHol : List UInt8 := [104, 111, 108, 101]
def kindOf (w : List UInt8) : Int := if w = wLst then 1 else if w = wDel then 2 else 3
def wordS (w : List UInt8) (l : D4) (line : List UInt8) (g : Gm) (b : Bool) : Rs :=
  if w = wTok ∨ w = wSkip then tokS l line g b else if w = wCls then clsS l g b else if w = wSta then staS l g b else if w = wRul then rulS l g b
  else if w = wLst ∨ w = wDel ∨ w = wHol then notS (kindOf w) l g b else (30, (g, b))
def stepL (line : List UInt8) (g : Gm) (b : Bool) : Rs := match Wd line with
  | [] => (0, (g, b))
  | w :: l => if w.getD 0 0 = 35 then (0, (g, b)) else wordS w (w :: l) line g b
structure Sm (g : Gm) : Prop where
  t : g.1.length ≤ 32
  p : g.2.2.1.length ≤ 64
  n : g.2.2.2.length ≤ 16
def outG (r : Rs) : Option D16 := some (r.1, (r.2, ()))
theorem getD0 {α : Type} {w : α} {l : List α} (d : α) : (w :: l).getD 0 d = w := rfl
theorem token_eq (line : List UInt8) (hs : line.length < 100000) (g : Gm) (b : Bool) (hg : Sm g) (hne : Wd line ≠ []) : s_gram_reading_token ((g, b), (line, ())) = outG (tokS (Wd line) line g b) := by
  have e : s_gram_reading_token ((g, b), (line, ())) = gram_reading_token.t0 ((g, b), (line, ())) := rfl
  rw [e]
  unfold gram_reading_token.t0 tokS
  rw [rest_eq line hs, bindR_val]
  simp only [notB_eq, Bool.not_not]
  by_cases h1 : (u4 line).tail = []
  · rw [decide_eq_true h1, iteB_true, if_pos h1]; rfl
  · rw [decide_eq_false h1, iteB_false, if_neg h1, isName_eq, bindR_val]
    obtain ⟨w, l, hw⟩ := tok_facts line h1
    have hn : (Wd line).getD 1 [] = wF (u3 line) := by rw [hw]; rfl
    rw [hn]
    cases h2 : nameB (wF (u3 line)) with
    | false => rfl
    | true =>
      rw [Bool.not_true, iteB_false, if_neg (by simp)]
      by_cases h3 : g.1.length = 32
      · rw [iteB_pos (decide_eq_true (by omega)), if_pos h3]; rfl
      · rw [iteB_neg (decide_eq_false (by omega)), if_neg h3, words_eq line hs, bindR_val]
        have hl : 0 < (Wd line).length := List.length_pos_iff.2 hne
        rw [withinR_zero hl, mustR_pos (room_ok (by have := hg.t; simp; omega))]
        rfl
theorem less1 (x y : UInt8) : Op.bytesLess [x] [y] = decide (x.toNat < y.toNat) := by
  simp [Op.bytesLess, UInt8.lt_iff_toNat_lt]
theorem class_loop (l : D4) (x : UInt8) (h1 : 2 < l.length) (h2 : l.getD 2 [] = [x]) (hx : 49 ≤ x.toNat ∧ x.toNat ≤ 57) (g : Gm) (b : Bool) (hg : g.1.length ≤ 32) : ∀ (j n : Nat), j < n → j ≤ g.1.length →
    gram_reading_class.p3 fuel n l ((j : Int) - 1) (g, b) = outG (match lastI g.1 (l.getD 1 []) j with | none => (31, (g, b)) | some i => (0, ((setC g.1 i ((x.toNat : Int) - 48), g.2), b)))
  | 0, n + 1, _, _ => by
    have e1 : gram_reading_class.p3 fuel (n + 1) l (((0 : Nat) : Int) - 1) (g, b) = gram_reading_class.t3 (gram_reading_class.p3 fuel n) (gram_reading_class.p4 fuel) l (((0 : Nat) : Int) - 1) (g, b) := rfl
    rw [e1]
    unfold gram_reading_class.t3
    rw [iteB_neg (decide_eq_false (by omega))]
    rfl
  | j + 1, n + 1, hn, hj => by
    have e0 : (((j + 1 : Nat) : Int) - 1) = (j : Int) := by omega
    rw [e0]
    have e1 : gram_reading_class.p3 fuel (n + 1) l (j : Int) (g, b) = gram_reading_class.t3 (gram_reading_class.p3 fuel n) (gram_reading_class.p4 fuel) l (j : Int) (g, b) := rfl
    rw [e1]
    unfold gram_reading_class.t3
    dsimp only
    rw [iteB_pos (decide_eq_true (by omega)), withinR_nat (by omega), withinR_pos (by omega) (by omega)]
    simp only [show ((1 : Int)).toNat = 1 from rfl]
    by_cases h : (g.1.getD j zT).1 = l.getD 1 []
    · have hL : lastI g.1 (l.getD 1 []) (j + 1) = some j := by unfold lastI; rw [if_pos h]
      have hd : decide ((List.getD g.1 j (([] : List UInt8), (([] : List UInt8), (false, (0 : Int))))).1 = List.getD l 1 []) = true := decide_eq_true h
      rw [hd, iteB_true, withinR_pos (by omega) (by omega), withinR_pos (by omega) (by rw [show ((2 : Int)).toNat = 2 from rfl, h2]; simp), withinR_nat (by omega), hL]
      have hv : byteAt (List.getD l ((2 : Int)).toNat []) ((0 : Int)).toNat = (x.toNat : Int) := by
        rw [show ((2 : Int)).toNat = 2 from rfl, h2]; rfl
      have hw : w64 (w8 (byteAt (List.getD l ((2 : Int)).toNat []) ((0 : Int)).toNat - 48)) = (x.toNat : Int) - 48 := by
        rw [hv, w8_id (by omega) (by omega), w64_id (by omega) (by omega)]
      rw [hw]
      rfl
    · have hL : lastI g.1 (l.getD 1 []) (j + 1) = lastI g.1 (l.getD 1 []) j := by conv => lhs; unfold lastI; rw [if_neg h]
      have hd : decide ((List.getD g.1 j (([] : List UInt8), (([] : List UInt8), (false, (0 : Int))))).1 = List.getD l 1 []) = false := decide_eq_false h
      rw [hd, iteB_false, hL, w64_id (by omega) (by omega)]
      exact class_loop l x h1 h2 hx g b hg j n (by omega) (by omega)
theorem class_eq (line : List UInt8) (hs : line.length < 100000) (g : Gm) (b : Bool) (hg : Sm g) : s_gram_reading_class ((g, b), (line, ())) = outG (clsS (Wd line) g b) := by
  have e : s_gram_reading_class ((g, b), (line, ())) = gram_reading_class.t0 (gram_reading_class.p1 fuel) ((g, b), (line, ())) := rfl
  rw [e]
  unfold gram_reading_class.t0
  rw [words_eq line hs, bindR_val]
  simp only
  generalize Wd line = l
  have p1 : ∀ c, gram_reading_class.p1 fuel l c (g, b) = iteB c (some (30, ((g, b), ()))) (gram_reading_class.p3 fuel fuel l (w64 (((g.1.length : Nat) : Int) - 1)) (g, b)) := fun c => rfl
  have bad : clsBad l → gram_reading_class.p1 fuel l true (g, b) = outG (clsS l g b) := fun h => by
    rw [p1, iteB_true]; unfold clsS; rw [if_pos h]; rfl
  by_cases h1 : l.length = 3
  · rw [iteB_neg (by rw [decide_eq_true (by omega)]; rfl), withinR_pos (by omega) (by omega)]
    simp only [show ((2 : Int)).toNat = 2 from rfl]
    by_cases h2 : (l.getD 2 []).length = 1
    · obtain ⟨x, hx⟩ : ∃ x, l.getD 2 [] = [x] := by
        match hl : l.getD 2 [], h2 with
        | [x], _ => exact ⟨x, rfl⟩
      rw [iteB_neg (by rw [decide_eq_true (by omega)]; rfl), withinR_pos (by omega) (by omega)]
      simp only [show ((2 : Int)).toNat = 2 from rfl, hx, less1]
      have hb : byteAt (l.getD 2 []) 0 = (x.toNat : Int) := by rw [hx]; rfl
      have c49 : (49 : UInt8).toNat = 49 := rfl
      have c57 : (57 : UInt8).toNat = 57 := rfl
      rw [c49]
      by_cases h3 : x.toNat < 49
      · rw [decide_eq_true h3, iteB_true, bad (.inr (.inr (.inl (by rw [hb]; omega))))]
      · rw [decide_eq_false h3, iteB_false, withinR_pos (by omega) (by omega)]
        simp only [show ((2 : Int)).toNat = 2 from rfl, hx, less1]
        rw [c57]
        have h4 : (!(decide (x.toNat < 57) || decide ([x] = [57]))) = decide (57 < x.toNat) := by
          have : decide ([x] = [57]) = decide (x.toNat = 57) := decide_eq_decide.2 ⟨fun h => by rw [(List.cons.inj h).1]; rfl, fun h => by rw [ext8 (a := x) (b := 57) (by rw [h]; rfl)]⟩
          rw [this]
          by_cases q : 57 < x.toNat
          · rw [decide_eq_true q, decide_eq_false (by omega), decide_eq_false (by omega)]; rfl
          · rw [decide_eq_false q]
            by_cases q2 : x.toNat = 57
            · rw [decide_eq_true q2]; simp
            · rw [decide_eq_true (show x.toNat < 57 by omega)]; rfl
        rw [h4]
        by_cases h5 : 57 < x.toNat
        · rw [decide_eq_true h5, bad (.inr (.inr (.inr (by rw [hb]; omega))))]
        · rw [decide_eq_false h5, p1, iteB_false, w64_id (by have := hg.t; omega) (by have := hg.t; omega)]
          have hnb : ¬ clsBad l := by
            unfold clsBad
            rw [hb]
            omega
          rw [class_loop l x (by omega) hx (by omega) g b hg.t g.1.length fuel (by have := hg.t; have := fuel_gt g.1.length (by omega); omega) (Nat.le_refl _)]
          unfold clsS
          rw [if_neg hnb, hb]
    · rw [iteB_pos (by rw [decide_eq_false (by omega)]; rfl), bad (.inr (.inl h2))]
  · rw [iteB_pos (by rw [decide_eq_false (by omega)]; rfl), bad (.inl h1)]
end Go.Proofs.YtogipciicekmoaaGreatDoor.Vm.Gz
namespace Go.Proofs.YtogipciicekmoaaGreatDoor.Vm.Gz
open Go Go.Proofs.YtogipciicekmoaaGreatDoor.Vm
set_option linter.unusedVariables false
set_option maxRecDepth 100000
theorem nat1 : ((1 : Int)).toNat = 1 := rfl
theorem nat2 : ((2 : Int)).toNat = 2 := rfl
theorem nat3 : ((3 : Int)).toNat = 3 := rfl
theorem start_eq (line : List UInt8) (hs : line.length < 100000) (g : Gm) (b : Bool) : s_gram_reading_start ((g, b), (line, ())) = outG (staS (Wd line) g b) := by
  have e : s_gram_reading_start ((g, b), (line, ())) = gram_reading_start.t0 ((g, b), (line, ())) := rfl
  rw [e]
  unfold gram_reading_start.t0 staS
  rw [words_eq line hs, bindR_val]
  dsimp only
  generalize Wd line = l
  by_cases h1 : l.length = 2
  · rw [iteB_neg (by rw [decide_eq_true (by omega)]; rfl), if_neg (by simpa using h1), withinR_pos (by omega) (by omega), nat1, isName_eq, bindR_val]
    cases h2 : nameB (l.getD 1 []) with
    | false => rfl
    | true =>
      rw [notB_eq, Bool.not_true, iteB_false, if_neg (by simp)]
      cases b with
      | true => rfl
      | false =>
        rw [iteB_false, if_neg (by simp), withinR_pos (by omega) (by omega), nat1]
        rfl
  · rw [iteB_pos (by rw [decide_eq_false (by omega)]; rfl), if_pos h1]; rfl
theorem rule_eq (line : List UInt8) (hs : line.length < 100000) (g : Gm) (b : Bool) (hg : Sm g) : s_gram_reading_rule ((g, b), (line, ())) = outG (rulS (Wd line) g b) := by
  have e : s_gram_reading_rule ((g, b), (line, ())) = gram_reading_rule.t0 (gram_reading_rule.p1 fuel) ((g, b), (line, ())) := rfl
  rw [e]
  unfold gram_reading_rule.t0
  rw [words_eq line hs, bindR_val]
  dsimp only
  have hl := Wd_len line
  generalize Wd line = l at hl
  have p1t : gram_reading_rule.p1 fuel l true (g, b) = some (30, ((g, b), ())) := rfl
  by_cases h1 : l.length < 3
  · rw [iteB_pos (decide_eq_true (by omega)), p1t]
    unfold rulS
    rw [if_pos (.inl h1)]
    rfl
  rw [iteB_neg (decide_eq_false (by omega)), withinR_pos (by omega) (by omega), nat2]
  by_cases h2 : l.getD 2 [] = [58]
  · rw [h2, decide_eq_true rfl]
    have p1f : gram_reading_rule.p1 fuel l (!true) (g, b) = gram_reading_rule.t1 (gram_reading_rule.p2 fuel) l false (g, b) := rfl
    have hd3 : List.drop ((3 : Int)).toNat (List.take l.length l) = l.drop 3 := by rw [nat3, List.take_length]
    rw [p1f]
    unfold gram_reading_rule.t1 rulS
    rw [iteB_false, withinR_pos (by omega) (by omega), nat1, isName_eq, bindR_val, if_neg (show ¬ (l.length < 3 ∨ l.getD 2 [] ≠ [58]) from fun q => q.elim h1 fun q => q h2)]
    have p2t : gram_reading_rule.p2 fuel l true (g, b) = some (31, ((g, b), ())) := rfl
    cases h3 : nameB (l.getD 1 []) with
    | false =>
      rw [notB_eq, Bool.not_false, iteB_true, p2t, if_pos (.inl rfl)]; rfl
    | true =>
      rw [notB_eq, Bool.not_true, iteB_false, mustR_dec (by omega), mustR_dec (by omega), hd3, areNames_eq _ (by rw [List.length_drop]; omega), bindR_val]
      cases h4 : (l.drop 3).all nameB with
      | false => rw [notB_eq, Bool.not_false, p2t, if_pos (.inr rfl)]; rfl
      | true =>
        rw [notB_eq, Bool.not_true, if_neg (by simp)]
        have p2f : gram_reading_rule.p2 fuel l false (g, b) = iteB (decide ((8 : Int) < w64 (((l.length : Nat) : Int) - 3))) (gram_reading_rule.p3 fuel l true (g, b)) (gram_reading_rule.p3 fuel l (decide (((g.2.2.1.length : Nat) : Int) = 64)) (g, b)) := rfl
        have p3t : gram_reading_rule.p3 fuel l true (g, b) = some (21, ((g, b), ())) := rfl
        rw [p2f, w64_id (by omega) (by omega)]
        by_cases h5 : 11 < l.length
        · rw [iteB_pos (decide_eq_true (by omega)), p3t, if_pos (.inl h5)]; rfl
        · rw [iteB_neg (decide_eq_false (by omega))]
          by_cases h6 : g.2.2.1.length = 64
          · rw [decide_eq_true (by omega), p3t, if_pos (.inr h6)]; rfl
          · have p3f : gram_reading_rule.p3 fuel l false (g, b) = gram_reading_rule.t4 l (g, b) := rfl
            rw [decide_eq_false (by omega), p3f, if_neg (by omega)]
            unfold gram_reading_rule.t4
            dsimp only
            rw [withinR_pos (by omega) (by omega), nat1, mustR_dec (by omega), mustR_dec (by omega), hd3, mustR_pos (room_ok (by have := hg.p; simp; omega))]
            rfl
  · rw [decide_eq_false h2]
    show gram_reading_rule.p1 fuel l true (g, b) = _
    rw [p1t]
    unfold rulS
    rw [if_pos (.inr h2)]
    rfl
theorem arity_eq (k : Int) (n : Nat) : s_gram_arity (k, (((n : Nat) : Int), ())) = some (arS k n, ()) := by
  have e : s_gram_arity (k, (((n : Nat) : Int), ())) = gram_arity.t0 (k, (((n : Nat) : Int), ())) := rfl
  rw [e]
  unfold gram_arity.t0 arS
  dsimp only
  by_cases h1 : k = 1
  · subst h1
    rw [iteB_pos (decide_eq_true rfl)]
    by_cases h2 : n = 2
    · subst h2; rfl
    · rw [iteB_neg (decide_eq_false (by omega))]
      congr 2
      exact decide_eq_decide.2 (by omega)
  · rw [iteB_neg (decide_eq_false h1)]
    by_cases h2 : k = 2
    · subst h2
      rw [iteB_pos (decide_eq_true rfl)]
      congr 2
      exact decide_eq_decide.2 (by omega)
    · rw [iteB_neg (decide_eq_false h2)]
      by_cases h3 : k = 3
      · subst h3
        rw [iteB_pos (decide_eq_true rfl)]
        congr 2
        exact decide_eq_decide.2 (by omega)
      · rw [iteB_neg (decide_eq_false h3), decide_eq_false (by omega)]
theorem kinds_at {w : List UInt8} (h : w = wLst ∨ w = wDel ∨ w = wHol) : (bindR (s_kinds ()) fun r3 => s_slices_Index (r3.1, (w, ()))) = some (kindOf w, ()) := by
  rcases h with rfl | rfl | rfl <;> kernel_rfl
theorem note_eq (line : List UInt8) (hs : line.length < 100000) (g : Gm) (b : Bool) (hg : Sm g) (w : List UInt8) (l : D4) (hw : Wd line = w :: l) (hk : w = wLst ∨ w = wDel ∨ w = wHol) : s_gram_reading_note ((g, b), (line, ())) = outG (notS (kindOf w) (w :: l) g b) := by
  have e : s_gram_reading_note ((g, b), (line, ())) = gram_reading_note.t0 ((g, b), (line, ())) := rfl
  rw [e]
  unfold gram_reading_note.t0
  have hl := Wd_len line
  rw [words_eq line hs, bindR_val, hw]
  rw [hw] at hl
  dsimp only
  have hk3 : 1 ≤ kindOf w ∧ kindOf w ≤ 3 := by
    unfold kindOf
    split
    · omega
    · split <;> omega
  have h8 : w8 (kindOf w) = kindOf w := w8_id (by omega) (by omega)
  obtain ⟨q, hq1, hq2⟩ : ∃ q, s_kinds () = some (q, ()) ∧ s_slices_Index (q, (w, ())) = some (kindOf w, ()) := ⟨_, rfl, kinds_at hk⟩
  have hlen : (w :: l).length = l.length + 1 := rfl
  rw [withinR_zero (by omega), getD0, hq1, bindR_val]
  dsimp only
  rw [hq2, bindR_val]
  dsimp only
  have hw1 : w64 ((((w :: l).length : Nat) : Int) - 1) = (((w :: l).length - 1 : Nat) : Int) := by rw [w64_id (by omega) (by omega)]; omega
  have hd1 : List.drop ((1 : Int)).toNat (List.take (w :: l).length (w :: l)) = (w :: l).drop 1 := by rw [nat1, List.take_length]
  rw [h8, hw1, arity_eq, bindR_val]
  unfold notS
  cases h1 : arS (kindOf w) ((w :: l).length - 1) with
  | false => rfl
  | true =>
    rw [notB_eq, Bool.not_true, iteB_false, if_neg (by simp), mustR_dec (by omega), mustR_dec (by omega), hd1, areNames_eq _ (by rw [List.length_drop]; omega), bindR_val]
    cases h2 : ((w :: l).drop 1).all nameB with
    | false => rfl
    | true =>
      rw [notB_eq, Bool.not_true, iteB_false, if_neg (by simp)]
      by_cases h3 : g.2.2.2.length = 16
      · rw [iteB_pos (decide_eq_true (by omega)), if_pos h3]; rfl
      · rw [iteB_neg (decide_eq_false (by omega)), if_neg h3, mustR_dec (by omega), mustR_dec (by omega), mustR_pos (room_ok (by have := hg.n; simp; omega))]
        rfl
theorem prefix_eq (w : List UInt8) (hw : w ≠ []) : s_strings_HasPrefix (w, ([35], ())) = some (decide (w.getD 0 0 = 35), ()) := by
  have e : s_strings_HasPrefix (w, ([35], ())) = bindR (internal_stringslite_HasPrefix.t0 (w, ([35], ()))) fun r1 => some (r1.1, ()) := rfl
  rw [e]
  unfold internal_stringslite_HasPrefix.t0
  dsimp only
  cases w with
  | nil => exact absurd rfl hw
  | cons x w =>
    have h1 : ((List.length ([35] : List UInt8) : Nat) : Int) = 1 := rfl
    rw [h1, iteB_pos (decide_eq_true (by simp only [List.length_cons]; omega)), mustR_dec (by omega), mustR_dec (by simp only [List.length_cons]; omega), nat1, bindR_val]
    congr 2
    exact decide_eq_decide.2 ⟨fun h => (List.cons.inj h).1, fun h => by rw [show x = 35 from h]; rfl⟩
theorem findW_chain (w : List UInt8) : (w = wTok ∧ findW w tabW = 56) ∨ (w = wSkip ∧ findW w tabW = 56) ∨ (w = wCls ∧ findW w tabW = 57) ∨ (w = wSta ∧ findW w tabW = 58) ∨ (w = wRul ∧ findW w tabW = 59) ∨
    ((w = wLst ∨ w = wDel ∨ w = wHol) ∧ findW w tabW = 60) ∨ (w ≠ wTok ∧ w ≠ wSkip ∧ w ≠ wCls ∧ w ≠ wSta ∧ w ≠ wRul ∧ w ≠ wLst ∧ w ≠ wDel ∧ w ≠ wHol ∧ findW w tabW = 0) := by
  by_cases h1 : w = wTok
  · subst h1; exact .inl ⟨rfl, rfl⟩
  by_cases h2 : w = wSkip
  · subst h2; exact .inr (.inl ⟨rfl, rfl⟩)
  by_cases h3 : w = wCls
  · subst h3; exact .inr (.inr (.inl ⟨rfl, rfl⟩))
  by_cases h4 : w = wSta
  · subst h4; exact .inr (.inr (.inr (.inl ⟨rfl, rfl⟩)))
  by_cases h5 : w = wRul
  · subst h5; exact .inr (.inr (.inr (.inr (.inl ⟨rfl, rfl⟩))))
  by_cases h6 : w = wLst
  · subst h6; exact .inr (.inr (.inr (.inr (.inr (.inl ⟨.inl rfl, rfl⟩)))))
  by_cases h7 : w = wDel
  · subst h7; exact .inr (.inr (.inr (.inr (.inr (.inl ⟨.inr (.inl rfl), rfl⟩)))))
  by_cases h8 : w = wHol
  · subst h8; exact .inr (.inr (.inr (.inr (.inr (.inl ⟨.inr (.inr rfl), rfl⟩)))))
  refine .inr (.inr (.inr (.inr (.inr (.inr ⟨h1, h2, h3, h4, h5, h6, h7, h8, ?_⟩)))))
  unfold wTok at h1
  unfold wSkip at h2
  unfold wCls at h3
  unfold wSta at h4
  unfold wRul at h5
  unfold wLst at h6
  unfold wDel at h7
  unfold wHol at h8
  unfold tabW
  simp only [findW, decide_eq_false h1, decide_eq_false h2, decide_eq_false h3, decide_eq_false h4, decide_eq_false h5, decide_eq_false h6, decide_eq_false h7, decide_eq_false h8]
theorem line_eq (line : List UInt8) (hs : line.length < 100000) (g : Gm) (b : Bool) (hg : Sm g) : s_line ((g, b), (line, ())) = outG (stepL line g b) := by
  have e : s_line ((g, b), (line, ())) = bindR (s_gram_words (line, ())) fun q => firstW q.1 ((g, b), (line, ())) := rfl
  rw [e, words_eq line hs, bindR_val]
  unfold stepL
  dsimp only
  cases hw : Wd line with
  | nil => rfl
  | cons w l =>
    have hm : w ∈ Wd line := by rw [hw]; simp
    have hne : Wd line ≠ [] := by rw [hw]; simp
    have e2 : firstW (w :: l) ((g, b), (line, ())) = bindR (s_strings_HasPrefix (w, ([35], ()))) fun h => iteB h.1 (some (0, ((g, b), ()))) (doW (findW w tabW) ((g, b), (line, ()))) := rfl
    rw [e2, prefix_eq w (Wd_mem hm).1, bindR_val]
    dsimp only
    by_cases h0 : w.getD 0 0 = 35
    · rw [decide_eq_true h0, if_pos h0]; rfl
    · rw [decide_eq_false h0, if_neg h0, iteB_false]
      have tk := token_eq line hs g b hg hne
      have cl := class_eq line hs g b hg
      have st := start_eq line hs g b
      have ru := rule_eq line hs g b hg
      rw [hw] at tk cl st ru
      unfold wordS
      rcases findW_chain w with ⟨h, hf⟩ | ⟨h, hf⟩ | ⟨h, hf⟩ | ⟨h, hf⟩ | ⟨h, hf⟩ | ⟨h, hf⟩ | ⟨n1, n2, n3, n4, n5, n6, n7, n8, hf⟩
      · rw [hf, if_pos (.inl h)]; exact tk
      · rw [hf, if_pos (.inr h)]; exact tk
      · rw [hf, h, if_neg (by decide), if_pos rfl, ← h]; exact cl
      · rw [hf, h, if_neg (by decide), if_neg (by decide), if_pos rfl, ← h]; exact st
      · rw [hf, h, if_neg (by decide), if_neg (by decide), if_neg (by decide), if_pos rfl, ← h]; exact ru
      · have k1 : ¬ (w = wTok ∨ w = wSkip) := by rcases h with rfl | rfl | rfl <;> decide
        have k2 : ¬ w = wCls := by rcases h with rfl | rfl | rfl <;> decide
        have k3 : ¬ w = wSta := by rcases h with rfl | rfl | rfl <;> decide
        have k4 : ¬ w = wRul := by rcases h with rfl | rfl | rfl <;> decide
        rw [hf, if_neg k1, if_neg k2, if_neg k3, if_neg k4, if_pos h]
        exact note_eq line hs g b hg w l hw h
      · rw [hf, if_neg (by simp [n1, n2]), if_neg n3, if_neg n4, if_neg n5, if_neg (by simp [n6, n7, n8])]; rfl
end Go.Proofs.YtogipciicekmoaaGreatDoor.Vm.Gz
namespace Go.Proofs.YtogipciicekmoaaGreatDoor.Vm.Gz
open Go Go.Proofs.YtogipciicekmoaaGreatDoor.Vm
set_option linter.unusedVariables false
set_option maxRecDepth 100000
def zG : Gm := ([], ([], ([], [])))
theorem lastI_pos {T : D3} {nm : List UInt8} {j : Nat} (h : (T.getD j zT).1 = nm) : lastI T nm (j + 1) = some j := by unfold lastI; rw [if_pos h]
theorem rarity_eq (k : Int) (hk : 1 ≤ k ∧ k ≤ 3) (n : Nat) : ∃ lo hi : Int, s_ref10_Arity (k, ()) = some ((lo, hi), ()) ∧ arS k n = !(decide ((n : Int) < lo) || decide (hi < (n : Int))) := by
  have : k = 1 ∨ k = 2 ∨ k = 3 := by omega
  rcases this with rfl | rfl | rfl
  · refine ⟨2, 3, rfl, ?_⟩
    unfold arS
    by_cases h1 : (n : Int) < 2
    · rw [decide_eq_true h1, decide_eq_false (by omega)]; rfl
    · by_cases h2 : (3 : Int) < n
      · rw [decide_eq_true h2, decide_eq_false (by omega)]; simp
      · rw [decide_eq_false h1, decide_eq_false h2, decide_eq_true (by omega)]; rfl
  · refine ⟨4, 4, rfl, ?_⟩
    unfold arS
    by_cases h1 : (n : Int) < 4
    · rw [decide_eq_true h1, decide_eq_false (by omega)]; rfl
    · by_cases h2 : (4 : Int) < n
      · rw [decide_eq_true h2, decide_eq_false (by omega)]; simp
      · rw [decide_eq_false h1, decide_eq_false h2, decide_eq_true (by omega)]; rfl
  · refine ⟨2, 2, rfl, ?_⟩
    unfold arS
    by_cases h1 : (n : Int) < 2
    · rw [decide_eq_true h1, decide_eq_false (by omega)]; rfl
    · by_cases h2 : (2 : Int) < n
      · rw [decide_eq_true h2, decide_eq_false (by omega)]; simp
      · rw [decide_eq_false h1, decide_eq_false h2, decide_eq_true (by omega)]; rfl
end Go.Proofs.YtogipciicekmoaaGreatDoor.Vm.Gz
namespace Go.Proofs.YtogipciicekmoaaGreatDoor.Vm.Gz
open Go Go.Proofs.YtogipciicekmoaaGreatDoor.Vm
set_option linter.unusedVariables false
set_option maxRecDepth 100000
def Wh (s : List UInt8) : Bool := wh (s.length + 1) s
theorem wh_any : ∀ (k n : Nat) (s : List UInt8), s.length ≤ k → s.length < n → wh n s = Wh s := by
  intro k
  induction k with
  | zero =>
    intro n s hk hn
    cases s with
    | nil => cases n with
      | zero => omega
      | succ n => rfl
    | cons x s => simp at hk
  | succ k ih =>
    intro n s hk hn
    cases s with
    | nil => cases n with
      | zero => omega
      | succ n => rfl
    | cons x s =>
      cases n with
      | zero => omega
      | succ n =>
        have hd := dec_len (x :: s)
        simp only [List.length_cons] at hk hn
        show (if (dec (x :: s)).2 = 0 then false else wh n ((x :: s).drop (dec (x :: s)).2.toNat)) = (if (dec (x :: s)).2 = 0 then false else wh (x :: s).length ((x :: s).drop (dec (x :: s)).2.toNat))
        rcases hd with h | ⟨j, h, h1, h2⟩
        · rw [if_pos h, if_pos h]
        · rw [if_neg (by omega), if_neg (by omega), h, Int.toNat_natCast]
          have hl : ((x :: s).drop j).length ≤ s.length := by rw [List.length_drop]; simp only [List.length_cons]; omega
          rw [ih n _ (by omega) (by omega), ih (x :: s).length _ (by omega) (by simp only [List.length_cons]; omega)]
theorem Wh_step {s : List UInt8} (h : s ≠ []) : Wh s = if (dec s).2 = 0 then false else Wh (s.drop (dec s).2.toNat) := by
  cases s with
  | nil => exact absurd rfl h
  | cons x s =>
    show (if (dec (x :: s)).2 = 0 then false else wh (x :: s).length ((x :: s).drop (dec (x :: s)).2.toNat)) = _
    rcases dec_len (x :: s) with h | ⟨j, h, h1, h2⟩
    · rw [if_pos h, if_pos h]
    · have e0 : ¬ (dec (x :: s)).2 = 0 := by omega
      have hj : (dec (x :: s)).2.toNat = j := by rw [h]; rfl
      rw [if_neg e0, if_neg e0, hj]
      exact wh_any _ _ _ (Nat.le_refl _) (by rw [List.length_drop]; simp only [List.length_cons]; omega)
theorem enc_tail (m : Nat) (hm : m < 1114112) (i : Nat) (c : UInt8) (hi : 1 ≤ i) (h : (enc m)[i]? = some c) : 128 ≤ c.toNat := by
  have key : ∀ k : Nat, k < 64 → 128 ≤ (UInt8.ofNat (128 + k)).toNat := fun k hk => by rw [toNat_ofNat _ (by omega)]; omega
  unfold enc at h
  split at h
  · match i, hi, h with
    | 0, hi, _ => omega
    | i + 1, _, h => simp at h
  · split at h
    · match i, hi, h with
      | 0, hi, _ => omega
      | 1, _, h => simp only [List.getElem?_cons_succ, List.getElem?_cons_zero, Option.some.injEq] at h; rw [← h]; exact key _ (by omega)
      | i + 2, _, h => simp at h
    · split at h
      · match i, hi, h with
        | 0, hi, _ => omega
        | 1, _, h => simp only [List.getElem?_cons_succ, List.getElem?_cons_zero, Option.some.injEq] at h; rw [← h]; exact key _ (by omega)
        | 2, _, h => simp only [List.getElem?_cons_succ, List.getElem?_cons_zero, Option.some.injEq] at h; rw [← h]; exact key _ (by omega)
        | i + 3, _, h => simp at h
      · match i, hi, h with
        | 0, hi, _ => omega
        | 1, _, h => simp only [List.getElem?_cons_succ, List.getElem?_cons_zero, Option.some.injEq] at h; rw [← h]; exact key _ (by omega)
        | 2, _, h => simp only [List.getElem?_cons_succ, List.getElem?_cons_zero, Option.some.injEq] at h; rw [← h]; exact key _ (by omega)
        | 3, _, h => simp only [List.getElem?_cons_succ, List.getElem?_cons_zero, Option.some.injEq] at h; rw [← h]; exact key _ (by omega)
        | i + 4, _, h => simp at h
theorem Wh_ascii (c : UInt8) (hc : c.toNat < 128) (b : List UInt8) : Wh (c :: b) = Wh b := by
  have hd : dec (c :: b) = ((c.toNat : Int), 1) := by
    show (if c.toNat < 128 then _ else _) = _
    rw [if_pos hc]
  rw [Wh_step (by simp), hd, if_neg (show ¬ ((1 : Int) = 0) by decide)]
  rfl
theorem Wh_app (c : UInt8) (hc : c.toNat < 128) (b : List UInt8) : ∀ (k : Nat) (a : List UInt8), a.length ≤ k → Wh (a ++ c :: b) = (Wh a && Wh b) := by
  intro k
  induction k with
  | zero =>
    intro a ha
    have : a = [] := List.eq_nil_of_length_eq_zero (by omega)
    subst this
    rw [List.nil_append, Wh_ascii c hc b]
    rfl
  | succ k ih =>
    intro a ha
    cases a with
    | nil => rw [List.nil_append, Wh_ascii c hc b]; rfl
    | cons x a =>
      rw [Wh_step (s := x :: a ++ c :: b) (by simp), Wh_step (s := x :: a) (by simp)]
      rcases dec_spec (x :: a) with h | ⟨m, r, h, hs, hm1, hm2⟩
      · have h2 : dec (x :: a ++ c :: b) = no := by
          rcases dec_spec (x :: a ++ c :: b) with h2 | ⟨m, r, h2, hs, hm1, hm2⟩
          · exact h2
          · exfalso
            by_cases hl : (enc m).length ≤ (x :: a).length
            · have ht : (x :: a).take (enc m).length = enc m := by
                have e1 := congrArg (List.take (enc m).length) hs
                rw [List.take_append_of_le_length hl, List.take_left'] at e1
                · exact e1
                · rfl
              have e2 : x :: a = enc m ++ (x :: a).drop (enc m).length := by rw [← List.take_append_drop (enc m).length (x :: a), ht]; simp
              have := dec_enc m hm1 hm2 ((x :: a).drop (enc m).length)
              rw [← e2, h] at this
              have := congrArg Prod.fst this
              have e3 : (-1 : Int) = (m : Int) := this
              omega
            · have e1 := congrArg (fun l => l[(x :: a).length]?) hs
              have e1 : (x :: a ++ c :: b)[(x :: a).length]? = (enc m ++ r)[(x :: a).length]? := e1
              rw [List.getElem?_append_right (Nat.le_refl _), List.getElem?_append_left (by omega), Nat.sub_self] at e1
              have := enc_tail m hm1 (x :: a).length c (by simp only [List.length_cons]; omega) e1.symm
              omega
        rw [h, h2]
        rfl
      · have e1 : x :: a ++ c :: b = enc m ++ (r ++ c :: b) := by rw [hs, List.append_assoc]
        have h2 : dec (x :: a ++ c :: b) = ((m : Int), ((enc m).length : Int)) := by rw [e1]; exact dec_enc m hm1 hm2 _
        have hl := enc_len m
        rw [h, h2, if_neg (by omega), if_neg (by omega), Int.toNat_natCast, e1, hs, List.drop_left' rfl, List.drop_left' rfl]
        refine ih r ?_
        have := congrArg List.length hs
        rw [List.length_append] at this
        omega
def runL : List (List UInt8) → Gm → Bool → Rs
  | [], g, b => (0, (g, b))
  | line :: ls, g, b => if (stepL line g b).1 = 0 then runL ls (stepL line g b).2.1 (stepL line g b).2.2 else stepL line g b
def readS (s : List UInt8) : Gm × Int :=
  if 4000 < s.length then (zG, 4) else if Wh s = false then (zG, 2) else if (runL (cutL 10 s) zG false).1 = 0 then ((runL (cutL 10 s) zG false).2.1, 0) else (zG, (runL (cutL 10 s) zG false).1)
theorem sm_step {line : List UInt8} {g : Gm} {b : Bool} (hg : Sm g) : Sm (stepL line g b).2.1 := by
  obtain ⟨h1, h2, h3⟩ := hg
  unfold stepL
  split
  · exact ⟨h1, h2, h3⟩
  · split
    · exact ⟨h1, h2, h3⟩
    · unfold wordS
      split
      · unfold tokS
        split
        · exact ⟨h1, h2, h3⟩
        · split
          · exact ⟨h1, h2, h3⟩
          · split
            · exact ⟨h1, h2, h3⟩
            · exact ⟨by simp only [List.length_append, List.length_cons, List.length_nil]; omega, h2, h3⟩
      · split
        · unfold clsS
          split
          · exact ⟨h1, h2, h3⟩
          · split
            · exact ⟨h1, h2, h3⟩
            · exact ⟨by simp only [setC, List.length_set]; exact h1, h2, h3⟩
        · split
          · unfold staS
            split
            · exact ⟨h1, h2, h3⟩
            · split
              · exact ⟨h1, h2, h3⟩
              · split
                · exact ⟨h1, h2, h3⟩
                · exact ⟨h1, h2, h3⟩
          · split
            · unfold rulS
              split
              · exact ⟨h1, h2, h3⟩
              · split
                · exact ⟨h1, h2, h3⟩
                · split
                  · exact ⟨h1, h2, h3⟩
                  · exact ⟨h1, by simp only [List.length_append, List.length_cons, List.length_nil]; omega, h3⟩
            · split
              · unfold notS
                split
                · exact ⟨h1, h2, h3⟩
                · split
                  · exact ⟨h1, h2, h3⟩
                  · split
                    · exact ⟨h1, h2, h3⟩
                    · exact ⟨h1, h2, by simp only [List.length_append, List.length_cons, List.length_nil]; omega⟩
              · exact ⟨h1, h2, h3⟩
def outRd (r : Rs) : Option D35 := if r.1 = 0 then some ((r.2.1, 0), ()) else some ((zG, r.1), ())
theorem read_loop (L : D4) (hL : L.length < 100000) (hl : ∀ p ∈ L, p.length < 50000) (m2 : Gm) : ∀ (d n i : Nat) (g : Gm) (b : Bool), i + d = L.length → d < n → Sm g → gram_Read.p1 fuel n L ((L.length : Nat) : Int) (i : Int) m2 (g, b) = outRd (runL (L.drop i) g b)
  | 0, n + 1, i, g, b, hi, _, hg => by
    have : i = L.length := by omega
    subst this
    have e1 : gram_Read.p1 fuel (n + 1) L ((L.length : Nat) : Int) (L.length : Int) m2 (g, b) = gram_Read.t1 (gram_Read.p1 fuel n) (gram_Read.p2 fuel) L ((L.length : Nat) : Int) (L.length : Int) m2 (g, b) := rfl
    rw [e1]
    unfold gram_Read.t1
    rw [iteB_neg lt_no, List.drop_length]
    rfl
  | d + 1, n + 1, i, g, b, hi, hn, hg => by
    have hlt : i < L.length := by omega
    have e1 : gram_Read.p1 fuel (n + 1) L ((L.length : Nat) : Int) (i : Int) m2 (g, b) = gram_Read.t1 (gram_Read.p1 fuel n) (gram_Read.p2 fuel) L ((L.length : Nat) : Int) (i : Int) m2 (g, b) := rfl
    rw [e1]
    unfold gram_Read.t1
    have hb := hl _ (List.getElem_mem hlt)
    rw [iteB_pos (lt_dec hlt), withinR_nat hlt, getD_at _ hlt, line_eq _ (by omega) g b hg, List.drop_eq_getElem_cons hlt]
    unfold outG runL
    rw [bindR_val]
    have hsm := sm_step (line := L[i]) (b := b) hg
    generalize stepL L[i] g b = r at hsm
    obtain ⟨e, g', b'⟩ := r
    dsimp only at hsm ⊢
    by_cases h : e = 0
    · rw [decide_eq_true h, if_pos h]
      show gram_Read.p1 fuel n L ((L.length : Nat) : Int) (w64 ((i : Int) + 1)) m2 (g', b') = _
      rw [w64_succ (by omega)]
      exact read_loop L hL hl m2 d n (i + 1) g' b' (by omega) (by omega) hsm
    · rw [decide_eq_false h, if_neg h]
      unfold outRd
      rw [if_neg h]
      rfl
  | _, 0, _, _, _, _, hn, _ => by omega
theorem sm_zero : Sm zG := ⟨by decide, by decide, by decide⟩
theorem read_eq (s : List UInt8) (hs : s.length < 100000000) : s_gram_Read (s, ()) = some (readS s, ()) := by
  have e : s_gram_Read (s, ()) = iteB (decide ((4000 : Int) < ((s.length : Nat) : Int))) (some ((zG, 4), ())) (bindR (s_runes_Whole (s, ())) fun r1 => iteB (notB r1.1) (some ((zG, 2), ())) (bindR (s_strings_Split (s, ([10], ()))) fun r2 => gram_Read.p1 fuel fuel r2.1 ((r2.1.length : Nat) : Int) ((0 : Nat) : Int) zG (zG, false))) := rfl
  rw [e]
  unfold readS
  by_cases h : 4000 < s.length
  · rw [iteB_pos (decide_eq_true (by omega)), if_pos h]
  · rw [iteB_neg (decide_eq_false (by omega)), if_neg h, whole_eq s (by omega), bindR_val, wh_any s.length fuel s (Nat.le_refl _) (by have := fuel_gt s.length (by omega); omega)]
    cases hw : Wh s with
    | false => rfl
    | true =>
      rw [notB_eq, Bool.not_true, iteB_false, if_neg (by simp), split_eq 10 s (by omega), bindR_val]
      dsimp only
      have hsm := cutL_small 10 s
      rw [read_loop (cutL 10 s) (by omega) (fun p hp => by have := cutL_mem 10 s p hp; omega) zG (cutL 10 s).length fuel 0 zG false (by omega) (by have := fuel_gt (cutL 10 s).length (by omega); omega) sm_zero, List.drop_zero]
      unfold outRd
      split <;> rfl
end Go.Proofs.YtogipciicekmoaaGreatDoor.Vm.Gz
namespace Go.Proofs.YtogipciicekmoaaGreatDoor.Vm.Gz
open Go Go.Proofs.YtogipciicekmoaaGreatDoor.Vm
set_option linter.unusedVariables false
set_option maxRecDepth 100000
theorem alive_eq : s_law10_alive () = some (true, ()) := by kernel_rfl
structure Ok0 (g : Gm) (b : Bool) : Prop where
  toks : ∀ t ∈ g.1, nameB t.1 = true ∧ t.2.1 ≠ [] ∧ 10 ∉ t.2.1 ∧ Wh t.2.1 = true ∧ t.2.1.length < 100000 ∧ 0 ≤ t.2.2.2 ∧ t.2.2.2 ≤ 9
  prods : ∀ p ∈ g.2.2.1, nameB p.1 = true ∧ p.2.length ≤ 8 ∧ p.2.all nameB = true
  notes : ∀ n ∈ g.2.2.2, arS n.1 n.2.length = true ∧ n.2.all nameB = true
  start : g.2.1 = [] ∨ nameB g.2.1 = true
  began : b = true ↔ g.2.1 ≠ []
structure Ok (g : Gm) (b : Bool) : Prop extends Ok0 g b where
  sm : Sm g
theorem nameB_ne {s : List UInt8} (h : nameB s = true) : s ≠ [] := by
  intro e
  subst e
  cases h
section
end
theorem stepL_word {line w : List UInt8} {l : D4} (h : Wd line = w :: l) (h35 : ¬ w.getD 0 0 = 35) (g : Gm) (b : Bool) : stepL line g b = wordS w (w :: l) line g b := by unfold stepL; rw [h]; simp only [if_neg h35]
theorem loopOk {α : Type} {N : Nat} (F : Nat → Int → Option α) (r : Option α) (hN : N < 1000000) (hstep : ∀ n (i : Nat), i < N → F (n + 1) (i : Int) = F n (w64 ((i : Int) + 1))) (hend : ∀ n, F (n + 1) (N : Int) = r) : F fuel 0 = r := by
  have := loopAll (N := N) (fun n (_ : Unit) i => F n i) (fun _ => r) (fun _ _ => True) () 0 (Nat.zero_le _) trivial (by omega) (fun n i s hi _ => ⟨(), trivial, hstep n i hi⟩) (fun n s _ => hend n)
  obtain ⟨_, _, h⟩ := this
  exact h
theorem texts_self (l : D4) (hl : l.length < 1000000) : s_ref10_texts (l, (l, ())) = some (true, ()) := by
  have e : s_ref10_texts (l, (l, ())) = iteB (!decide (((l.length : Nat) : Int) = ((l.length : Nat) : Int))) (some (false, ())) (ref10_texts.p1 fuel fuel l l 0) := rfl
  rw [e, decide_eq_true rfl]
  refine loopOk (N := l.length) (fun n i => ref10_texts.p1 fuel n l l i) _ hl (fun n i hi => ?_) (fun n => ?_)
  · have e1 : ref10_texts.p1 fuel (n + 1) l l (i : Int) = ref10_texts.t1 (ref10_texts.p1 fuel n) (ref10_texts.p2 fuel) l l (i : Int) := rfl
    unfold ref10_texts.t1 at e1
    rw [iteB_pos (lt_dec hi), withinR_nat hi, withinR_nat hi, decide_eq_true rfl] at e1
    exact e1
  · have e1 : ref10_texts.p1 fuel (n + 1) l l (l.length : Int) = ref10_texts.t1 (ref10_texts.p1 fuel n) (ref10_texts.p2 fuel) l l (l.length : Int) := rfl
    unfold ref10_texts.t1 at e1
    rw [iteB_neg lt_no] at e1
    exact e1
theorem same_self (g : Gm) (hg : Sm g) (h2 : ∀ p ∈ g.2.2.1, p.2.length < 1000000) (h3 : ∀ n ∈ g.2.2.2, n.2.length < 1000000) : s_ref10_Same (g, (g, ())) = some (true, ()) := by
  have e : s_ref10_Same (g, (g, ())) = iteB (!decide (((g.1.length : Nat) : Int) = ((g.1.length : Nat) : Int))) (some (false, ())) (iteB (!decide (((g.2.2.1.length : Nat) : Int) = ((g.2.2.1.length : Nat) : Int))) (some (false, ())) (iteB (!decide (((g.2.2.2.length : Nat) : Int) = ((g.2.2.2.length : Nat) : Int))) (some (false, ())) (iteB (!(decide (g.2.1 = g.2.1))) (some (false, ())) (ref10_Same.p3 fuel fuel 0 g g)))) := rfl
  rw [e, decide_eq_true rfl, decide_eq_true rfl, decide_eq_true rfl, decide_eq_true rfl]
  show ref10_Same.p3 fuel fuel 0 g g = _
  have p9 : ref10_Same.p9 fuel fuel 0 g g = some (true, ()) := by
    refine loopOk (N := g.2.2.2.length) (fun n i => ref10_Same.p9 fuel n i g g) _ (by have := hg.n; omega) (fun n i hi => ?_) (fun n => ?_)
    · have e1 : ref10_Same.p9 fuel (n + 1) (i : Int) g g = ref10_Same.t9 (ref10_Same.p10 fuel (ref10_Same.p9 fuel n)) (ref10_Same.p11 fuel) (i : Int) g g := rfl
      unfold ref10_Same.t9 at e1
      rw [iteB_pos (lt_dec hi), withinR_nat hi, withinR_nat hi, decide_eq_true rfl, Bool.not_true, iteB_false, withinR_nat hi, withinR_nat hi, texts_self _ (by rw [getD_at _ hi]; exact h3 _ (List.getElem_mem _)), bindR_val] at e1
      exact e1
    · have e1 : ref10_Same.p9 fuel (n + 1) (g.2.2.2.length : Int) g g = ref10_Same.t9 (ref10_Same.p10 fuel (ref10_Same.p9 fuel n)) (ref10_Same.p11 fuel) (g.2.2.2.length : Int) g g := rfl
      unfold ref10_Same.t9 at e1
      rw [iteB_neg lt_no] at e1
      exact e1
  have p5 : ref10_Same.p5 fuel fuel 0 g g = some (true, ()) := by
    refine loopOk (N := g.2.2.1.length) (fun n i => ref10_Same.p5 fuel n i g g) _ (by have := hg.p; omega) (fun n i hi => ?_) (fun n => ?_)
    · have e1 : ref10_Same.p5 fuel (n + 1) (i : Int) g g = ref10_Same.t5 (ref10_Same.p6 fuel (ref10_Same.p5 fuel n)) (ref10_Same.p7 fuel) (i : Int) g g := rfl
      unfold ref10_Same.t5 at e1
      rw [iteB_pos (lt_dec hi), withinR_nat hi, withinR_nat hi, decide_eq_true rfl, Bool.not_true, iteB_false, withinR_nat hi, withinR_nat hi, texts_self _ (by rw [getD_at _ hi]; exact h2 _ (List.getElem_mem _)), bindR_val] at e1
      exact e1
    · have e1 : ref10_Same.p5 fuel (n + 1) (g.2.2.1.length : Int) g g = ref10_Same.t5 (ref10_Same.p6 fuel (ref10_Same.p5 fuel n)) (ref10_Same.p7 fuel) (g.2.2.1.length : Int) g g := rfl
      unfold ref10_Same.t5 at e1
      rw [iteB_neg lt_no] at e1
      exact e1.trans p9
  refine loopOk (N := g.1.length) (fun n i => ref10_Same.p3 fuel n i g g) _ (by have := hg.t; omega) (fun n i hi => ?_) (fun n => ?_)
  · have e1 : ref10_Same.p3 fuel (n + 1) (i : Int) g g = ref10_Same.t3 (ref10_Same.p3 fuel n) (ref10_Same.p4 fuel) (i : Int) g g := rfl
    unfold ref10_Same.t3 at e1
    rw [iteB_pos (lt_dec hi), withinR_nat hi, withinR_nat hi, decide_eq_true rfl, decide_eq_true rfl, decide_eq_true rfl, beq_self_eq_true, Bool.and_self, Bool.and_self, Bool.and_self, Bool.not_true, iteB_false] at e1
    exact e1
  · have e1 : ref10_Same.p3 fuel (n + 1) (g.1.length : Int) g g = ref10_Same.t3 (ref10_Same.p3 fuel n) (ref10_Same.p4 fuel) (g.1.length : Int) g g := rfl
    unfold ref10_Same.t3 at e1
    rw [iteB_neg lt_no] at e1
    exact e1.trans p5
end Go.Proofs.YtogipciicekmoaaGreatDoor.Vm.Gz
namespace Go.Proofs.YtogipciicekmoaaGreatDoor.Vm.Gz
open Go Go.Proofs.YtogipciicekmoaaGreatDoor.Vm
set_option linter.unusedVariables false
set_option maxRecDepth 100000
end Go.Proofs.YtogipciicekmoaaGreatDoor.Vm.Gz
namespace Go.Proofs.YtogipciicekmoaaGreatDoor.Vm.Gz
open Go Go.Proofs.YtogipciicekmoaaGreatDoor.Vm
set_option linter.unusedVariables false
set_option maxRecDepth 100000
theorem allLoop {β α : Type} (l : List β) (d0 : β) (P : β → Bool) (F : Nat → Int → Option α) (stop E : Option α) (hl : l.length < 1000000)
    (hF : ∀ n (i : Nat) (hi : i < l.length), F (n + 1) (i : Int) = iteB (P (l.getD i d0)) (F n (w64 ((i : Int) + 1))) stop) (hE : ∀ n, F (n + 1) (l.length : Int) = E) :
    F fuel ((0 : Nat) : Int) = iteB (l.all P) E stop := by
  have loop : ∀ (d n i : Nat), i + d = l.length → d < n → F n (i : Int) = iteB ((l.drop i).all P) E stop := by
    intro d
    induction d with
    | zero =>
      intro n i h1 h2
      obtain ⟨n', rfl⟩ : ∃ n', n = n' + 1 := ⟨n - 1, by omega⟩
      have : i = l.length := by omega
      subst this
      rw [hE, List.drop_length]
      rfl
    | succ d ih =>
      intro n i h1 h2
      obtain ⟨n', rfl⟩ : ∃ n', n = n' + 1 := ⟨n - 1, by omega⟩
      have hi : i < l.length := by omega
      rw [hF n' i hi, getD_at d0 hi, List.drop_eq_getElem_cons hi, List.all_cons]
      cases P l[i] with
      | true => rw [iteB_true, Bool.true_and, w64_succ (by omega)]; exact ih n' (i + 1) (by omega) (by omega)
      | false => rw [iteB_false, Bool.false_and]; rfl
  have := loop l.length fuel 0 (by omega) (fuel_gt _ (by omega))
  rw [List.drop_zero] at this
  exact this
def longB (l : D4) : Bool := decide (50 < l.length) || !l.all (fun s => !decide (100 < s.length))
theorem dec_cast (a b : Nat) : decide ((a : Int) < (b : Int)) = decide (a < b) := decide_eq_decide.2 (by omega)
theorem longer_eq (l : D4) : s_law10_longer (l, ()) = some (longB l, ()) := by
  have e : s_law10_longer (l, ()) = iteB (decide ((50 : Int) < ((l.length : Nat) : Int))) (some (true, ())) (law10_longer.p1 fuel fuel l ((0 : Nat) : Int)) := rfl
  rw [e, show ((50 : Int)) = ((50 : Nat) : Int) from rfl, dec_cast]
  unfold longB
  by_cases h : 50 < l.length
  · rw [decide_eq_true h]; rfl
  · rw [decide_eq_false h, iteB_false, Bool.false_or]
    rw [allLoop l [] (fun s => !decide (100 < s.length)) (fun n i => law10_longer.p1 fuel n l i) (some (true, ())) (some (false, ())) (by omega)
      (fun n i hi => by
        have e1 : law10_longer.p1 fuel (n + 1) l (i : Int) = law10_longer.t1 (law10_longer.p1 fuel n) (law10_longer.p2 fuel) l (i : Int) := rfl
        unfold law10_longer.t1 at e1
        rw [iteB_pos (lt_dec hi), withinR_nat hi, show ((100 : Int)) = ((100 : Nat) : Int) from rfl, dec_cast] at e1
        show law10_longer.p1 fuel (n + 1) l (i : Int) = _
        rw [e1]
        cases decide (100 < (l.getD i []).length) <;> rfl)
      (fun n => by
        have e1 : law10_longer.p1 fuel (n + 1) l (l.length : Int) = law10_longer.t1 (law10_longer.p1 fuel n) (law10_longer.p2 fuel) l (l.length : Int) := rfl
        unfold law10_longer.t1 at e1
        rw [iteB_neg lt_no] at e1
        exact e1)]
    cases l.all (fun s => !decide (100 < s.length)) <;> rfl
def gT (t : D2) : Bool := !decide (100 < t.1.length) && !decide (500 < t.2.1.length)
def gP (p : D5) : Bool := !decide (100 < p.1.length) && !longB p.2
def gN (n : D7) : Bool := !longB n.2
def smallB (g : Gm) : Bool := !decide (50 < g.1.length) && !decide (100 < g.2.2.1.length) && !decide (50 < g.2.2.2.length) && !decide (100 < g.2.1.length) && (g.1.all gT && (g.2.2.1.all gP && g.2.2.2.all gN))
theorem great_eq (g : Gm) : s_law10_Great (g, ()) = some (!smallB g, ()) := by
  have e : s_law10_Great (g, ()) = iteB (decide ((50 : Int) < ((g.1.length : Nat) : Int))) (some (true, ())) (iteB (decide ((100 : Int) < ((g.2.2.1.length : Nat) : Int))) (some (true, ())) (iteB (decide ((50 : Int) < ((g.2.2.2.length : Nat) : Int))) (some (true, ())) (law10_Great.p1 fuel (decide ((100 : Int) < ((g.2.1.length : Nat) : Int))) g))) := rfl
  have e1 : ∀ b, law10_Great.p1 fuel b g = iteB b (some (true, ())) (law10_Great.p3 fuel fuel ((0 : Nat) : Int) g) := fun _ => rfl
  rw [e, e1, show ((50 : Int)) = ((50 : Nat) : Int) from rfl, show ((100 : Int)) = ((100 : Nat) : Int) from rfl, dec_cast, dec_cast, dec_cast, dec_cast]
  unfold smallB
  by_cases h1 : 50 < g.1.length
  · rw [decide_eq_true h1]; rfl
  by_cases h2 : 100 < g.2.2.1.length
  · rw [decide_eq_false h1, decide_eq_true h2]; rfl
  by_cases h3 : 50 < g.2.2.2.length
  · rw [decide_eq_false h1, decide_eq_false h2, decide_eq_true h3]; rfl
  by_cases h4 : 100 < g.2.1.length
  · rw [decide_eq_false h1, decide_eq_false h2, decide_eq_false h3, decide_eq_true h4]; rfl
  rw [decide_eq_false h1, decide_eq_false h2, decide_eq_false h3, decide_eq_false h4, iteB_false, iteB_false, iteB_false, iteB_false]
  have lN : law10_Great.p11 fuel fuel ((0 : Nat) : Int) g = iteB (g.2.2.2.all gN) (some (false, ())) (some (true, ())) :=
    allLoop g.2.2.2 (0, []) gN (fun n i => law10_Great.p11 fuel n i g) _ _ (by omega)
      (fun n i hi => by
        have e1 : law10_Great.p11 fuel (n + 1) (i : Int) g = law10_Great.t11 (law10_Great.p11 fuel n) (law10_Great.p12 fuel) (i : Int) g := rfl
        unfold law10_Great.t11 at e1
        rw [iteB_pos (lt_dec hi), withinR_nat hi, longer_eq, bindR_val] at e1
        show law10_Great.p11 fuel (n + 1) (i : Int) g = _
        rw [e1]; unfold gN
        generalize longB _ = x
        cases x <;> rfl)
      (fun n => by
        have e1 : law10_Great.p11 fuel (n + 1) (g.2.2.2.length : Int) g = law10_Great.t11 (law10_Great.p11 fuel n) (law10_Great.p12 fuel) (g.2.2.2.length : Int) g := rfl
        unfold law10_Great.t11 at e1
        rw [iteB_neg lt_no] at e1
        exact e1)
  have lP : law10_Great.p7 fuel fuel ((0 : Nat) : Int) g = iteB (g.2.2.1.all gP) (law10_Great.p11 fuel fuel ((0 : Nat) : Int) g) (some (true, ())) :=
    allLoop g.2.2.1 ([], []) gP (fun n i => law10_Great.p7 fuel n i g) _ _ (by omega)
      (fun n i hi => by
        have e1 : law10_Great.p7 fuel (n + 1) (i : Int) g = law10_Great.t7 (law10_Great.p8 fuel (law10_Great.p7 fuel n)) (law10_Great.p9 fuel) (i : Int) g := rfl
        unfold law10_Great.t7 at e1
        rw [iteB_pos (lt_dec hi), withinR_nat hi, withinR_nat hi, longer_eq, bindR_val, show ((100 : Int)) = ((100 : Nat) : Int) from rfl, dec_cast] at e1
        show law10_Great.p7 fuel (n + 1) (i : Int) g = _
        rw [e1]; unfold gP
        generalize longB _ = x
        generalize decide (100 < _) = y
        cases y <;> cases x <;> rfl)
      (fun n => by
        have e1 : law10_Great.p7 fuel (n + 1) (g.2.2.1.length : Int) g = law10_Great.t7 (law10_Great.p8 fuel (law10_Great.p7 fuel n)) (law10_Great.p9 fuel) (g.2.2.1.length : Int) g := rfl
        unfold law10_Great.t7 at e1
        rw [iteB_neg lt_no] at e1
        exact e1)
  have lT : law10_Great.p3 fuel fuel ((0 : Nat) : Int) g = iteB (g.1.all gT) (law10_Great.p7 fuel fuel ((0 : Nat) : Int) g) (some (true, ())) :=
    allLoop g.1 zT gT (fun n i => law10_Great.p3 fuel n i g) _ _ (by omega)
      (fun n i hi => by
        have e1 : law10_Great.p3 fuel (n + 1) (i : Int) g = law10_Great.t3 (law10_Great.p4 fuel (law10_Great.p3 fuel n)) (law10_Great.p5 fuel) (i : Int) g := rfl
        unfold law10_Great.t3 at e1
        rw [iteB_pos (lt_dec hi), withinR_nat hi, withinR_nat hi, show ((100 : Int)) = ((100 : Nat) : Int) from rfl, show ((500 : Int)) = ((500 : Nat) : Int) from rfl, dec_cast, dec_cast] at e1
        show law10_Great.p3 fuel (n + 1) (i : Int) g = _
        rw [e1]; unfold gT
        show iteB (decide (100 < (g.1.getD i zT).1.length)) _ (law10_Great.p4 fuel (law10_Great.p3 fuel n) (i : Int) (decide (500 < (g.1.getD i zT).2.1.length)) g) = _
        generalize decide (500 < (g.1.getD i zT).2.1.length) = x
        generalize decide (100 < (g.1.getD i zT).1.length) = y
        cases y <;> cases x <;> rfl)
      (fun n => by
        have e1 : law10_Great.p3 fuel (n + 1) (g.1.length : Int) g = law10_Great.t3 (law10_Great.p4 fuel (law10_Great.p3 fuel n)) (law10_Great.p5 fuel) (g.1.length : Int) g := rfl
        unfold law10_Great.t3 at e1
        rw [iteB_neg lt_no] at e1
        exact e1)
  rw [lT, lP, lN]
  cases g.1.all gT <;> cases g.2.2.1.all gP <;> cases g.2.2.2.all gN <;> rfl
end Go.Proofs.YtogipciicekmoaaGreatDoor.Vm.Gz
namespace Go.Proofs.YtogipciicekmoaaGreatDoor.Vm.Gz
open Go Go.Proofs.YtogipciicekmoaaGreatDoor.Vm
set_option linter.unusedVariables false
set_option maxRecDepth 100000
structure Lt (g : Gm) : Prop where
  t : g.1.length ≤ 50
  p : g.2.2.1.length ≤ 100
  n : g.2.2.2.length ≤ 50
  s : g.2.1.length ≤ 100
  ts : ∀ t ∈ g.1, t.1.length ≤ 100 ∧ t.2.1.length ≤ 500
  ps : ∀ p ∈ g.2.2.1, p.1.length ≤ 100 ∧ p.2.length ≤ 50 ∧ ∀ x ∈ p.2, x.length ≤ 100
  ns : ∀ n ∈ g.2.2.2, n.2.length ≤ 50 ∧ ∀ x ∈ n.2, x.length ≤ 100
theorem long_no {l : D4} (h : longB l = false) : l.length ≤ 50 ∧ ∀ x ∈ l, x.length ≤ 100 := by
  unfold longB at h
  simp only [Bool.or_eq_false_iff, decide_eq_false_iff_not, Bool.not_eq_false', List.all_eq_true, Bool.not_eq_true', Nat.not_lt] at h
  exact h
theorem small_lt {g : Gm} (h : smallB g = true) : Lt g := by
  unfold smallB gT gP gN at h
  simp only [Bool.and_eq_true, Bool.not_eq_true', decide_eq_false_iff_not, List.all_eq_true, Nat.not_lt] at h
  obtain ⟨⟨⟨⟨h1, h2⟩, h3⟩, h4⟩, h5, h6, h7⟩ := h
  exact ⟨h1, h2, h3, h4, h5, fun p hp => ⟨(h6 p hp).1, long_no (h6 p hp).2⟩, fun n hn => long_no (h7 n hn)⟩
def tokB (t : D2) : Bool := nameB t.1 && (!decide (t.2.1 = []) && (Wh t.2.1 && (!decide (10 ∈ t.2.1) && (decide (0 ≤ t.2.2.2) && decide (t.2.2.2 ≤ 9)))))
def prdB (p : D5) : Bool := nameB p.1 && (decide (p.2.length ≤ 8) && p.2.all nameB)
def nteB (n : D7) : Bool := arS n.1 n.2.length && n.2.all nameB
def rightB (g : Gm) : Bool := !decide (32 < g.1.length) && (!decide (64 < g.2.2.1.length) && (!decide (16 < g.2.2.2.length) && ((decide (g.2.1 = []) || nameB g.2.1) && (g.1.all tokB && (g.2.2.1.all prdB && g.2.2.2.all nteB)))))
theorem contains_eq (s : List UInt8) : s_strings_Contains (s, ([10], ())) = some (decide (10 ∈ s), ()) := by
  have e : s_strings_Contains (s, ([10], ())) = some (decide ((0 : Int) ≤ findB 10 s 0), ()) := rfl
  rw [e]
  rcases findB_spec 10 s 0 with ⟨h1, h2⟩ | ⟨k, _, h2, h3⟩
  · rw [show findB 10 s 0 = -1 from h2, decide_eq_false h1]; rfl
  · rw [show findB 10 s 0 = ((0 + k : Nat) : Int) from h3, decide_eq_true (List.mem_of_getElem? h2), decide_eq_true (by omega)]
theorem cut_many (s : List UInt8) : decide ((1 : Int) < (((cutL 10 s).length : Nat) : Int)) = decide (10 ∈ s) := by
  rw [cutL_len]
  refine decide_eq_decide.2 ⟨fun h => List.count_pos_iff.1 (by omega), fun h => ?_⟩
  have := List.count_pos_iff.2 h
  omega
theorem wh_fuel {s : List UInt8} (h : s.length < 100000) : wh fuel s = Wh s := wh_any _ fuel _ (Nat.le_refl _) (by have := fuel_gt s.length (by omega); omega)
theorem rightToken_eq {t : D2} (h : t.2.1.length < 100000) : s_gram_rightToken (t, ()) = some (tokB t, ()) := by
  have e : s_gram_rightToken (t, ()) = gram_rightToken.t0 (t, ()) := rfl
  rw [e]
  unfold gram_rightToken.t0 tokB
  dsimp only
  rw [isName_eq, bindR_val, whole_eq _ (by omega), wh_fuel h, contains_eq]
  simp only [bindR_val, notB_eq]
  generalize decide (10 ∈ t.2.1) = x1
  generalize Wh t.2.1 = x2
  generalize decide (t.2.1 = []) = x3
  generalize nameB t.1 = x4
  generalize decide (0 ≤ t.2.2.2) = x5
  cases x1 <;> cases x2 <;> cases x3 <;> cases x4 <;> cases x5 <;> rfl
theorem rightProd_eq {p : D5} (h : p.2.length < 100000) : s_gram_rightProd (p, ()) = some (prdB p, ()) := by
  have e : s_gram_rightProd (p, ()) = gram_rightProd.t0 (p, ()) := rfl
  rw [e]
  unfold gram_rightProd.t0 prdB
  dsimp only
  rw [isName_eq, bindR_val, areNames_eq _ (by omega), bindR_val, show decide (((p.2.length : Nat) : Int) ≤ 8) = decide (p.2.length ≤ 8) from decide_eq_decide.2 (by omega)]
  generalize decide (p.2.length ≤ 8) = x1
  generalize nameB p.1 = x2
  generalize p.2.all nameB = x3
  cases x1 <;> cases x2 <;> cases x3 <;> rfl
theorem right3_eq {n : D7} (h : n.2.length < 100000) : s_gram_Right_3 (n, ()) = some (!nteB n, ()) := by
  have e : s_gram_Right_3 (n, ()) = gram_Right_3.t0 (n, ()) := rfl
  rw [e]
  unfold gram_Right_3.t0 nteB
  dsimp only
  rw [arity_eq, bindR_val, notB_eq, areNames_eq _ (by omega), bindR_val, notB_eq]
  generalize arS n.1 n.2.length = x1
  generalize n.2.all nameB = x2
  cases x1 <;> cases x2 <;> rfl
theorem not_any {α : Type} (l : List α) (P : α → Bool) : (l.any fun x => !P x) = !l.all P := by
  rw [List.all_eq_not_any_not, Bool.not_not]
theorem right_all {g : Gm} (hg : Lt g) : s_gram_Right (g, ()) = some (rightB g, ()) := by
  have e2 : gram_Right.p1 fuel false g = bindR (s_slices_ContainsFunc (g.1, ((), ()))) fun r2 => iteB r2.1 (some (false, ())) (bindR (s_slices_ContainsFuncx (g.2.2.1, ((), ()))) fun r3 => iteB r3.1 (some (false, ())) (bindR (s_slices_ContainsFuncxx (g.2.2.2, ((), ()))) fun r4 => some (notB r4.1, ()))) := rfl
  have c1 : s_slices_ContainsFunc (g.1, ((), ())) = some (!g.1.all tokB, ()) := by
    have e : s_slices_ContainsFunc (g.1, ((), ())) = bindR (slices_IndexFunc.p1 fuel fuel g.1 () ((g.1.length : Nat) : Int) ((0 : Nat) : Int)) fun r1 => some (decide ((0 : Int) ≤ r1.1), ()) := rfl
    obtain ⟨r, h1, h2⟩ := idx_gen g.1 zT (fun x => s_gram_Right_1 (x, ())) (fun x => !tokB x) (fun x hx => by
        have e : s_gram_Right_1 (x, ()) = bindR (s_gram_rightToken (x, ())) fun r1 => some (notB r1.1, ()) := rfl
        rw [e, rightToken_eq (by have := (hg.ts x hx).2; omega), bindR_val, notB_eq]) (fun n i => slices_IndexFunc.p1 fuel n g.1 () ((g.1.length : Nat) : Int) i)
      (fun n i hi => by
        have e1 : slices_IndexFunc.p1 fuel (n + 1) g.1 () ((g.1.length : Nat) : Int) (i : Int) = slices_IndexFunc.t1 (slices_IndexFunc.p1 fuel n) (slices_IndexFunc.p2 fuel) g.1 () ((g.1.length : Nat) : Int) (i : Int) := rfl
        unfold slices_IndexFunc.t1 at e1
        rw [iteB_pos (lt_dec hi), withinR_nat hi] at e1
        exact e1)
      (fun n => by
        have e1 : slices_IndexFunc.p1 fuel (n + 1) g.1 () ((g.1.length : Nat) : Int) (g.1.length : Int) = slices_IndexFunc.t1 (slices_IndexFunc.p1 fuel n) (slices_IndexFunc.p2 fuel) g.1 () ((g.1.length : Nat) : Int) (g.1.length : Int) := rfl
        unfold slices_IndexFunc.t1 at e1
        rw [iteB_neg lt_no] at e1
        exact e1) (by have := hg.t; omega)
    rw [e, h1, bindR_val, h2, not_any]
  have c2 : s_slices_ContainsFuncx (g.2.2.1, ((), ())) = some (!g.2.2.1.all prdB, ()) := by
    have e : s_slices_ContainsFuncx (g.2.2.1, ((), ())) = bindR (slices_IndexFuncx.p1 fuel fuel g.2.2.1 () ((g.2.2.1.length : Nat) : Int) ((0 : Nat) : Int)) fun r1 => some (decide ((0 : Int) ≤ r1.1), ()) := rfl
    obtain ⟨r, h1, h2⟩ := idx_gen g.2.2.1 ([], []) (fun x => s_gram_Right_2 (x, ())) (fun x => !prdB x) (fun x hx => by
        have e : s_gram_Right_2 (x, ()) = bindR (s_gram_rightProd (x, ())) fun r1 => some (notB r1.1, ()) := rfl
        rw [e, rightProd_eq (by have := (hg.ps x hx).2.1; omega), bindR_val, notB_eq]) (fun n i => slices_IndexFuncx.p1 fuel n g.2.2.1 () ((g.2.2.1.length : Nat) : Int) i)
      (fun n i hi => by
        have e1 : slices_IndexFuncx.p1 fuel (n + 1) g.2.2.1 () ((g.2.2.1.length : Nat) : Int) (i : Int) = slices_IndexFuncx.t1 (slices_IndexFuncx.p1 fuel n) (slices_IndexFuncx.p2 fuel) g.2.2.1 () ((g.2.2.1.length : Nat) : Int) (i : Int) := rfl
        unfold slices_IndexFuncx.t1 at e1
        rw [iteB_pos (lt_dec hi), withinR_nat hi] at e1
        exact e1)
      (fun n => by
        have e1 : slices_IndexFuncx.p1 fuel (n + 1) g.2.2.1 () ((g.2.2.1.length : Nat) : Int) (g.2.2.1.length : Int) = slices_IndexFuncx.t1 (slices_IndexFuncx.p1 fuel n) (slices_IndexFuncx.p2 fuel) g.2.2.1 () ((g.2.2.1.length : Nat) : Int) (g.2.2.1.length : Int) := rfl
        unfold slices_IndexFuncx.t1 at e1
        rw [iteB_neg lt_no] at e1
        exact e1) (by have := hg.p; omega)
    rw [e, h1, bindR_val, h2, not_any]
  have c3 : s_slices_ContainsFuncxx (g.2.2.2, ((), ())) = some (!g.2.2.2.all nteB, ()) := by
    have e : s_slices_ContainsFuncxx (g.2.2.2, ((), ())) = bindR (slices_IndexFuncxx.p1 fuel fuel g.2.2.2 () ((g.2.2.2.length : Nat) : Int) ((0 : Nat) : Int)) fun r1 => some (decide ((0 : Int) ≤ r1.1), ()) := rfl
    obtain ⟨r, h1, h2⟩ := idx_gen g.2.2.2 (0, []) (fun x => s_gram_Right_3 (x, ())) (fun x => !nteB x) (fun x hx => right3_eq (by have := (hg.ns x hx).1; omega)) (fun n i => slices_IndexFuncxx.p1 fuel n g.2.2.2 () ((g.2.2.2.length : Nat) : Int) i)
      (fun n i hi => by
        have e1 : slices_IndexFuncxx.p1 fuel (n + 1) g.2.2.2 () ((g.2.2.2.length : Nat) : Int) (i : Int) = slices_IndexFuncxx.t1 (slices_IndexFuncxx.p1 fuel n) (slices_IndexFuncxx.p2 fuel) g.2.2.2 () ((g.2.2.2.length : Nat) : Int) (i : Int) := rfl
        unfold slices_IndexFuncxx.t1 at e1
        rw [iteB_pos (lt_dec hi), withinR_nat hi] at e1
        exact e1)
      (fun n => by
        have e1 : slices_IndexFuncxx.p1 fuel (n + 1) g.2.2.2 () ((g.2.2.2.length : Nat) : Int) (g.2.2.2.length : Int) = slices_IndexFuncxx.t1 (slices_IndexFuncxx.p1 fuel n) (slices_IndexFuncxx.p2 fuel) g.2.2.2 () ((g.2.2.2.length : Nat) : Int) (g.2.2.2.length : Int) := rfl
        unfold slices_IndexFuncxx.t1 at e1
        rw [iteB_neg lt_no] at e1
        exact e1) (by have := hg.n; omega)
    rw [e, h1, bindR_val, h2, not_any]
  have e3 : gram_Right.p1 fuel false g = some (g.1.all tokB && (g.2.2.1.all prdB && g.2.2.2.all nteB), ()) := by
    rw [e2, c1, bindR_val, c2, bindR_val, c3, bindR_val, notB_eq]
    generalize g.1.all tokB = x1
    generalize g.2.2.1.all prdB = x2
    generalize g.2.2.2.all nteB = x3
    cases x1 <;> cases x2 <;> cases x3 <;> rfl
  have e4 : gram_Right.p1 fuel true g = some (false, ()) := rfl
  have e : s_gram_Right (g, ()) = iteB (decide ((32 : Int) < ((g.1.length : Nat) : Int))) (gram_Right.p1 fuel true g) (iteB (decide ((64 : Int) < ((g.2.2.1.length : Nat) : Int))) (gram_Right.p1 fuel true g) (iteB (decide ((16 : Int) < ((g.2.2.2.length : Nat) : Int))) (gram_Right.p1 fuel true g) (iteB (!(decide (g.2.1 = []))) (bindR (s_IsName (g.2.1, ())) fun r1 => gram_Right.p1 fuel (notB r1.1) g) (gram_Right.p1 fuel false g)))) := rfl
  rw [e, isName_eq, bindR_val, notB_eq, show ((32 : Int)) = ((32 : Nat) : Int) from rfl, show ((64 : Int)) = ((64 : Nat) : Int) from rfl, show ((16 : Int)) = ((16 : Nat) : Int) from rfl, dec_cast, dec_cast, dec_cast]
  unfold rightB
  generalize decide (32 < g.1.length) = y1
  generalize decide (64 < g.2.2.1.length) = y2
  generalize decide (16 < g.2.2.2.length) = y3
  generalize decide (g.2.1 = []) = y4
  generalize nameB g.2.1 = y5
  cases y1 <;> cases y2 <;> cases y3 <;> cases y4 <;> cases y5 <;> first | rfl | exact e3 | exact e4
theorem rarity_any (k : Int) (n : Nat) : ∃ lo hi : Int, s_ref10_Arity (k, ()) = some ((lo, hi), ()) ∧ arS k n = !(decide ((n : Int) < lo) || decide (hi < (n : Int))) := by
  by_cases hk : 1 ≤ k ∧ k ≤ 3
  · exact rarity_eq k hk n
  · refine ⟨1, 0, ?_, ?_⟩
    · have e : s_ref10_Arity (k, ()) = iteB (decide (k = 1)) (some ((2, 3), ())) (iteB (decide (k = 2)) (some ((4, 4), ())) (iteB (decide (k = 3)) (some ((2, 2), ())) (some ((1, 0), ())))) := rfl
      rw [e, decide_eq_false (by omega), decide_eq_false (by omega), decide_eq_false (by omega)]; rfl
    · have h1 : arS k n = false := decide_eq_false (by omega)
      rw [h1]
      by_cases h : (n : Int) < 1
      · rw [decide_eq_true h]; rfl
      · rw [decide_eq_true (show (0 : Int) < (n : Int) by omega)]; simp
theorem rright_all {g : Gm} (hg : Lt g) : s_ref10_Right (g, ()) = some (rightB g, ()) := by
  have lN : ref10_Right.p11 fuel fuel ((0 : Nat) : Int) g = iteB (g.2.2.2.all nteB) (some (true, ())) (some (false, ())) := by
    have := hg.n
    refine allLoop g.2.2.2 (0, []) nteB (fun n i => ref10_Right.p11 fuel n i g) _ _ (by omega) (fun n i hi => ?_) (fun n => ?_)
    · have e1 : ref10_Right.p11 fuel (n + 1) (i : Int) g = ref10_Right.t11 (ref10_Right.p12 fuel (ref10_Right.p11 fuel n)) (ref10_Right.p13 fuel) (i : Int) g := rfl
      have hm : g.2.2.2.getD i (0, []) ∈ g.2.2.2 := by rw [getD_at _ hi]; exact List.getElem_mem hi
      have hb := hg.ns _ hm
      obtain ⟨lo, hi', h1, h2⟩ := rarity_any (g.2.2.2.getD i (0, [])).1 (g.2.2.2.getD i (0, [])).2.length
      unfold ref10_Right.t11 at e1
      rw [iteB_pos (lt_dec hi), withinR_nat hi, h1, bindR_val, withinR_nat hi, withinR_nat hi, rnames_eq _ (by omega) (fun p hp => by have := hb.2 p hp; omega), bindR_val, notB_eq] at e1
      show ref10_Right.p11 fuel (n + 1) (i : Int) g = _
      rw [e1]
      unfold nteB
      rw [h2]
      generalize (g.2.2.2.getD i (0, [])).2.all nameB = x1
      dsimp only
      generalize decide ((((g.2.2.2.getD i (0, [])).2.length : Nat) : Int) < lo) = x2
      generalize decide (hi' < (((g.2.2.2.getD i (0, [])).2.length : Nat) : Int)) = x3
      cases x1 <;> cases x2 <;> cases x3 <;> rfl
    · have e1 : ref10_Right.p11 fuel (n + 1) (g.2.2.2.length : Int) g = ref10_Right.t11 (ref10_Right.p12 fuel (ref10_Right.p11 fuel n)) (ref10_Right.p13 fuel) (g.2.2.2.length : Int) g := rfl
      unfold ref10_Right.t11 at e1
      rw [iteB_neg lt_no] at e1
      exact e1
  have lP : ref10_Right.p7 fuel fuel ((0 : Nat) : Int) g = iteB (g.2.2.1.all prdB) (ref10_Right.p11 fuel fuel ((0 : Nat) : Int) g) (some (false, ())) := by
    have := hg.p
    refine allLoop g.2.2.1 ([], []) prdB (fun n i => ref10_Right.p7 fuel n i g) _ _ (by omega) (fun n i hi => ?_) (fun n => ?_)
    · have e1 : ref10_Right.p7 fuel (n + 1) (i : Int) g = ref10_Right.t7 (ref10_Right.p8 fuel (ref10_Right.p7 fuel n)) (ref10_Right.p9 fuel) (i : Int) g := rfl
      have hm : g.2.2.1.getD i ([], []) ∈ g.2.2.1 := by rw [getD_at _ hi]; exact List.getElem_mem hi
      have hb := hg.ps _ hm
      unfold ref10_Right.t7 at e1
      rw [iteB_pos (lt_dec hi), withinR_nat hi, rname_eq _ (by have := hb.1; omega), bindR_val, withinR_nat hi, withinR_nat hi, rnames_eq _ (by omega) (fun p hp => by have := hb.2.2 p hp; omega), bindR_val, notB_eq, notB_eq, show ((8 : Int)) = ((8 : Nat) : Int) from rfl, dec_cast] at e1
      show ref10_Right.p7 fuel (n + 1) (i : Int) g = _
      rw [e1]
      unfold prdB
      rw [show decide ((g.2.2.1.getD i ([], [])).2.length ≤ 8) = !decide (8 < (g.2.2.1.getD i ([], [])).2.length) from by rw [← decide_not]; exact decide_eq_decide.2 (by omega)]
      generalize (g.2.2.1.getD i ([], [])).2.all nameB = x1
      generalize decide (8 < (g.2.2.1.getD i ([], [])).2.length) = x2
      generalize nameB (g.2.2.1.getD i ([], [])).1 = x3
      cases x1 <;> cases x2 <;> cases x3 <;> rfl
    · have e1 : ref10_Right.p7 fuel (n + 1) (g.2.2.1.length : Int) g = ref10_Right.t7 (ref10_Right.p8 fuel (ref10_Right.p7 fuel n)) (ref10_Right.p9 fuel) (g.2.2.1.length : Int) g := rfl
      unfold ref10_Right.t7 at e1
      rw [iteB_neg lt_no] at e1
      exact e1
  have lT : ref10_Right.p3 fuel fuel ((0 : Nat) : Int) g = iteB (g.1.all tokB) (ref10_Right.p7 fuel fuel ((0 : Nat) : Int) g) (some (false, ())) := by
    have := hg.t
    refine allLoop g.1 zT tokB (fun n i => ref10_Right.p3 fuel n i g) _ _ (by omega) (fun n i hi => ?_) (fun n => ?_)
    · have e1 : ref10_Right.p3 fuel (n + 1) (i : Int) g = ref10_Right.t3 (ref10_Right.p4 fuel (ref10_Right.p3 fuel n)) (ref10_Right.p5 fuel) (i : Int) g := rfl
      have hm : g.1.getD i zT ∈ g.1 := by rw [getD_at _ hi]; exact List.getElem_mem hi
      have hb := hg.ts _ hm
      unfold ref10_Right.t3 at e1
      rw [iteB_pos (lt_dec hi), withinR_nat hi] at e1
      replace e1 : ref10_Right.p3 fuel (n + 1) (i : Int) g = (bindR (s_ref10_Name ((g.1.getD i zT).1, ())) fun r3 => (iteB (notB r3.1) (ref10_Right.p4 fuel (ref10_Right.p3 fuel n) (i : Int) true g) (iteB (decide ((g.1.getD i zT).2.1 = ([] : List UInt8))) (ref10_Right.p4 fuel (ref10_Right.p3 fuel n) (i : Int) true g) (bindR (s_ref01_Whole ((g.1.getD i zT).2.1, ())) fun r4 => (iteB (notB r4.1) (ref10_Right.p4 fuel (ref10_Right.p3 fuel n) (i : Int) true g) (bindR (s_ref10_cut ((g.1.getD i zT).2.1, ((10 : Int), ()))) fun r5 => (iteB (decide ((1 : Int) < ((List.length r5.1 : Nat) : Int))) (ref10_Right.p4 fuel (ref10_Right.p3 fuel n) (i : Int) true g) (iteB (decide ((g.1.getD i zT).2.2.2 < (0 : Int))) (ref10_Right.p4 fuel (ref10_Right.p3 fuel n) (i : Int) true g) (ref10_Right.p4 fuel (ref10_Right.p3 fuel n) (i : Int) (decide ((9 : Int) < (g.1.getD i zT).2.2.2)) g))))))))) := e1
      show ref10_Right.p3 fuel (n + 1) (i : Int) g = _
      rw [e1]
      generalize g.1.getD i zT = t at hb
      have hc := rcut_eq 10 t.2.1 (by omega)
      rw [rname_eq _ (by omega), bindR_val, rwhole_eq _ (by omega), bindR_val, wh_fuel (by omega), show s_ref10_cut (t.2.1, ((10 : Int), ())) = _ from hc, bindR_val, cut_many, notB_eq, notB_eq]
      unfold tokB
      rw [show decide (0 ≤ t.2.2.2) = !decide (t.2.2.2 < 0) from by rw [← decide_not]; exact decide_eq_decide.2 (by omega), show decide (t.2.2.2 ≤ 9) = !decide (9 < t.2.2.2) from by rw [← decide_not]; exact decide_eq_decide.2 (by omega)]
      generalize decide (10 ∈ t.2.1) = x1
      generalize Wh t.2.1 = x2
      generalize decide (t.2.1 = []) = x3
      generalize nameB t.1 = x4
      generalize decide (t.2.2.2 < 0) = x5
      generalize decide (9 < t.2.2.2) = x6
      cases x1 <;> cases x2 <;> cases x3 <;> cases x4 <;> cases x5 <;> cases x6 <;> rfl
    · have e1 : ref10_Right.p3 fuel (n + 1) (g.1.length : Int) g = ref10_Right.t3 (ref10_Right.p4 fuel (ref10_Right.p3 fuel n)) (ref10_Right.p5 fuel) (g.1.length : Int) g := rfl
      unfold ref10_Right.t3 at e1
      rw [iteB_neg lt_no] at e1
      exact e1
  have e3 : ref10_Right.p1 fuel false g = some (g.1.all tokB && (g.2.2.1.all prdB && g.2.2.2.all nteB), ()) := by
    have e : ref10_Right.p1 fuel false g = ref10_Right.p3 fuel fuel ((0 : Nat) : Int) g := rfl
    rw [e, lT, lP, lN]
    generalize g.1.all tokB = x1
    generalize g.2.2.1.all prdB = x2
    generalize g.2.2.2.all nteB = x3
    cases x1 <;> cases x2 <;> cases x3 <;> rfl
  have e4 : ref10_Right.p1 fuel true g = some (false, ()) := rfl
  have e : s_ref10_Right (g, ()) = iteB (decide ((32 : Int) < ((g.1.length : Nat) : Int))) (ref10_Right.p1 fuel true g) (iteB (decide ((64 : Int) < ((g.2.2.1.length : Nat) : Int))) (ref10_Right.p1 fuel true g) (iteB (decide ((16 : Int) < ((g.2.2.2.length : Nat) : Int))) (ref10_Right.p1 fuel true g) (iteB (!(decide (g.2.1 = []))) (bindR (s_ref10_Name (g.2.1, ())) fun r1 => ref10_Right.p1 fuel (notB r1.1) g) (ref10_Right.p1 fuel false g)))) := rfl
  rw [e, rname_eq _ (by have := hg.s; omega), bindR_val, notB_eq, show ((32 : Int)) = ((32 : Nat) : Int) from rfl, show ((64 : Int)) = ((64 : Nat) : Int) from rfl, show ((16 : Int)) = ((16 : Nat) : Int) from rfl, dec_cast, dec_cast, dec_cast]
  unfold rightB
  generalize decide (32 < g.1.length) = y1
  generalize decide (64 < g.2.2.1.length) = y2
  generalize decide (16 < g.2.2.2.length) = y3
  generalize decide (g.2.1 = []) = y4
  generalize nameB g.2.1 = y5
  cases y1 <;> cases y2 <;> cases y3 <;> cases y4 <;> cases y5 <;> first | rfl | exact e3 | exact e4
end Go.Proofs.YtogipciicekmoaaGreatDoor.Vm.Gz
namespace Go.Proofs.YtogipciicekmoaaGreatDoor.Vm.Gz
open Go Go.Proofs.YtogipciicekmoaaGreatDoor.Vm
open Go.Proofs.Wr (ln dg tksS prdsS ntsS stS txS okIn kdS)
set_option linter.unusedVariables false
set_option maxRecDepth 100000
theorem ln_cons (x : List UInt8) (r : D4) : ln (x :: r) = x ++ (Lib.joinTail [32] r ++ [10]) := by
  unfold ln
  rw [Lib.join_cons, List.append_assoc]
theorem jt_nil : Lib.joinTail [32] [] = [] := rfl
theorem jt_cons (y : List UInt8) (r : D4) : Lib.joinTail [32] (y :: r) = [32] ++ (y ++ Lib.joinTail [32] r) := by
  unfold Lib.joinTail
  rw [List.map_cons, List.flatten_cons, List.append_assoc]
theorem jt_len (r : D4) (h : ∀ x ∈ r, x.length ≤ 100) : (Lib.joinTail [32] r).length ≤ 101 * r.length := by
  induction r with
  | nil => simp [jt_nil]
  | cons y r ih =>
    rw [jt_cons, List.length_append, List.length_append, List.length_cons]
    have h1 := ih (fun x hx => h x (List.mem_cons_of_mem _ hx))
    have h2 := h y List.mem_cons_self
    simp only [List.length_cons, List.length_nil]
    omega
theorem tok_len (t : D2) (h1 : t.1.length ≤ 100) (h2 : t.2.1.length ≤ 500) : (Proofs.Wr.tokS t.1 t.2.1 t.2.2.1 t.2.2.2.toNat).length ≤ 1000 := by
  unfold Proofs.Wr.tokS Proofs.Wr.clsS
  rw [List.length_append, ln_cons, jt_cons, jt_cons, jt_nil]
  have hw : (Proofs.Wr.wdS t.2.2.1).length ≤ 5 := by cases t.2.2.1 <;> decide
  cases t.2.2.2.toNat with
  | zero => simp only [List.length_append, List.length_cons, List.length_nil]; omega
  | succ c =>
    dsimp only
    rw [ln_cons, jt_cons, jt_cons, jt_nil]
    have hc : Proofs.Wr.wClass.length = 5 := rfl
    have hd : (dg (c + 1)).length = 1 := rfl
    simp only [List.length_append, List.length_cons, List.length_nil, hc, hd]; omega
theorem tks_len : ∀ (l : D3), (∀ t ∈ l, t.1.length ≤ 100 ∧ t.2.1.length ≤ 500) → (tksS l).length ≤ 1000 * l.length
  | [], _ => Nat.zero_le _
  | t :: l, h => by
    have h1 := tks_len l (fun x hx => h x (List.mem_cons_of_mem _ hx))
    have h2 := tok_len t (h t List.mem_cons_self).1 (h t List.mem_cons_self).2
    show (Proofs.Wr.tokS t.1 t.2.1 t.2.2.1 t.2.2.2.toNat ++ tksS l).length ≤ _
    rw [List.length_append, List.length_cons]
    omega
theorem prd_len (p : D5) (h1 : p.1.length ≤ 100) (h2 : p.2.length ≤ 50) (h3 : ∀ x ∈ p.2, x.length ≤ 100) : (ln ([Proofs.Wr.wRule, p.1, [58]] ++ p.2)).length ≤ 5200 := by
  show (ln (Proofs.Wr.wRule :: p.1 :: [58] :: p.2)).length ≤ _
  rw [ln_cons, jt_cons, jt_cons]
  have := jt_len p.2 h3
  have hc : Proofs.Wr.wRule.length = 4 := rfl
  simp only [List.length_append, List.length_cons, List.length_nil, hc]; omega
theorem prds_len : ∀ (l : D6), (∀ p ∈ l, p.1.length ≤ 100 ∧ p.2.length ≤ 50 ∧ ∀ x ∈ p.2, x.length ≤ 100) → (prdsS l).length ≤ 5200 * l.length
  | [], _ => Nat.zero_le _
  | p :: l, h => by
    have h1 := prds_len l (fun x hx => h x (List.mem_cons_of_mem _ hx))
    have hp := h p List.mem_cons_self
    have h2 := prd_len p hp.1 hp.2.1 hp.2.2
    show (ln ([Proofs.Wr.wRule, p.1, [58]] ++ p.2) ++ prdsS l).length ≤ _
    rw [List.length_append, List.length_cons]
    omega
theorem kd_len (k : Int) : (kdS k).length ≤ 5 := by
  unfold kdS
  split <;> decide
theorem nte_len (n : D7) (h2 : n.2.length ≤ 50) (h3 : ∀ x ∈ n.2, x.length ≤ 100) : (ln (kdS n.1 :: n.2)).length ≤ 5200 := by
  rw [ln_cons]
  have := jt_len n.2 h3
  have hc := kd_len n.1
  simp only [List.length_append, List.length_cons, List.length_nil]; omega
theorem nts_len : ∀ (l : D8), (∀ n ∈ l, n.2.length ≤ 50 ∧ ∀ x ∈ n.2, x.length ≤ 100) → (ntsS l).length ≤ 5200 * l.length
  | [], _ => Nat.zero_le _
  | p :: l, h => by
    have h1 := nts_len l (fun x hx => h x (List.mem_cons_of_mem _ hx))
    have hp := h p List.mem_cons_self
    have h2 := nte_len p hp.1 hp.2
    show (ln (kdS p.1 :: p.2) ++ ntsS l).length ≤ _
    rw [List.length_append, List.length_cons]
    omega
theorem st_len (s : List UInt8) (h : s.length ≤ 100) : (stS s).length ≤ 200 := by
  unfold stS
  split
  · exact Nat.zero_le _
  · rw [ln_cons, jt_cons, jt_nil]
    have hc : Proofs.Wr.wStart.length = 5 := rfl
    simp only [List.length_append, List.length_cons, List.length_nil, hc] at h ⊢; omega
abbrev txG (g : Gm) : List UInt8 := txS g.1 g.2.1 g.2.2.1 g.2.2.2
theorem tx_len {g : Gm} (hg : Lt g) : (txG g).length ≤ 1000000 := by
  unfold txG txS
  have h1 := tks_len g.1 hg.ts
  have h2 := prds_len g.2.2.1 hg.ps
  have h3 := nts_len g.2.2.2 hg.ns
  have h4 := st_len g.2.1 hg.s
  have := hg.t
  have := hg.p
  have := hg.n
  simp only [List.length_append]
  omega
structure Rt (g : Gm) : Prop where
  t : g.1.length ≤ 32
  p : g.2.2.1.length ≤ 64
  n : g.2.2.2.length ≤ 16
  s : g.2.1 = [] ∨ nameB g.2.1 = true
  ts : ∀ t ∈ g.1, tokB t = true
  ps : ∀ p ∈ g.2.2.1, prdB p = true
  ns : ∀ n ∈ g.2.2.2, nteB n = true
theorem rt_of {g : Gm} (h : rightB g = true) : Rt g := by
  unfold rightB at h
  simp only [Bool.and_eq_true, Bool.or_eq_true, Bool.not_eq_true', decide_eq_false_iff_not, decide_eq_true_eq, List.all_eq_true, Nat.not_lt] at h
  obtain ⟨h1, h2, h3, h4, h5, h6, h7⟩ := h
  exact ⟨h1, h2, h3, h4, h5, h6, h7⟩
theorem tokB_facts {t : D2} (h : tokB t = true) : nameB t.1 = true ∧ t.2.1 ≠ [] ∧ Wh t.2.1 = true ∧ 10 ∉ t.2.1 ∧ 0 ≤ t.2.2.2 ∧ t.2.2.2 ≤ 9 := by
  unfold tokB at h
  simpa only [Bool.and_eq_true, Bool.not_eq_true', decide_eq_false_iff_not, decide_eq_true_eq] using h
theorem prdB_facts {p : D5} (h : prdB p = true) : nameB p.1 = true ∧ p.2.length ≤ 8 ∧ p.2.all nameB = true := by
  unfold prdB at h
  simpa only [Bool.and_eq_true, decide_eq_true_eq] using h
theorem nteB_facts {n : D7} (h : nteB n = true) : arS n.1 n.2.length = true ∧ n.2.all nameB = true := by
  unfold nteB at h
  simpa only [Bool.and_eq_true] using h
theorem arS_facts {k : Int} {n : Nat} (h : arS k n = true) : (1 ≤ k ∧ k ≤ 3) ∧ 2 ≤ n ∧ n ≤ 4 := by
  unfold arS at h
  have := of_decide_eq_true h
  omega
theorem okIn_of {g : Gm} (hg : Lt g) (hr : Rt g) : okIn g.1 g.2.1 g.2.2.1 g.2.2.2 = true := by
  unfold okIn
  simp only [Bool.and_eq_true, List.all_eq_true, decide_eq_true_eq]
  have := hr.t
  have := hr.p
  have := hr.n
  refine ⟨⟨⟨⟨⟨⟨fun t ht => ?_, fun p hp => ?_⟩, fun n hn => ?_⟩, tx_len hg⟩, by omega⟩, by omega⟩, by omega⟩
  · have := (tokB_facts (hr.ts t ht)).2.2.2.2
    exact ⟨this.1, by omega⟩
  · have := (prdB_facts (hr.ps p hp)).2.1
    omega
  · have := arS_facts (nteB_facts (hr.ns n hn)).1
    exact ⟨⟨this.1, by omega⟩, by omega⟩
def txA (g : Gm) : List UInt8 × Int := match rightB g with
  | true => txV (txG g)
  | false => ([], 1)
theorem text_eq {g : Gm} (hg : Lt g) : s_Text (g, ()) = some (txA g, ()) := by
  have e : s_Text (g, ()) = bindR (s_gram_Right (g, ())) fun q => iteB q.1 (mustR (okIn g.1 g.2.1 g.2.2.1 g.2.2.2) (some (txV (txG g), ()))) (some (([], 1), ())) := rfl
  rw [e, right_all hg, bindR_val]
  unfold txA
  cases h : rightB g with
  | false => rfl
  | true => rw [okIn_of hg (rt_of h)]; rfl
end Go.Proofs.YtogipciicekmoaaGreatDoor.Vm.Gz
namespace Go.Proofs.YtogipciicekmoaaGreatDoor.Vm.Gz
open Go Go.Proofs.YtogipciicekmoaaGreatDoor.Vm
open Go.Proofs.Wr (ln dg tksS prdsS ntsS stS txS okIn kdS)
set_option linter.unusedVariables false
set_option maxRecDepth 100000
end Go.Proofs.YtogipciicekmoaaGreatDoor.Vm.Gz
namespace Go.Proofs.YtogipciicekmoaaGreatDoor.Vm.Gz
open Go Go.Proofs.YtogipciicekmoaaGreatDoor.Vm
open Go.Proofs.Wr (ln dg tksS prdsS ntsS stS txS okIn kdS)
set_option linter.unusedVariables false
set_option maxRecDepth 100000
def Wo (x : List UInt8) : Prop := x ≠ [] ∧ ∀ c ∈ x, 36 ≤ c.toNat ∧ c.toNat < 128
theorem nmB_range {b : Bool} {n : Nat} (h : nmB b n = true) : 48 ≤ n ∧ n ≤ 122 := by
  unfold nmB letB digB at h
  simp only [Bool.or_eq_true, Bool.and_eq_true, decide_eq_true_eq] at h
  omega
theorem nmAll_range : ∀ (l : List UInt8) (b : Bool), nmAll b l = true → ∀ c ∈ l, 48 ≤ c.toNat ∧ c.toNat ≤ 122
  | [], _, _, c, hc => by cases hc
  | x :: l, b, h, c, hc => by
    unfold nmAll at h
    cases hx : nmB b x.toNat with
    | false => rw [hx] at h; cases h
    | true =>
      rw [hx] at h
      rcases List.mem_cons.1 hc with rfl | hc
      · exact nmB_range hx
      · exact nmAll_range l false h c hc
theorem name_wo {x : List UInt8} (h : nameB x = true) : Wo x := by
  refine ⟨nameB_ne h, fun c hc => ?_⟩
  unfold nameB at h
  simp only [Bool.and_eq_true] at h
  have := nmAll_range x true h.1.1 c hc
  omega
theorem Wo.no {x : List UInt8} (h : Wo x) {c : UInt8} (hc : c.toNat < 36) : c ∉ x := fun hm => by have := (h.2 c hm).1; omega
theorem Wo.wh : ∀ {x : List UInt8}, Wo x → Wh x = true := fun {x} h => by
  have key : ∀ l : List UInt8, (∀ c ∈ l, c.toNat < 128) → Wh l = true := by
    intro l
    induction l with
    | nil => intro _; rfl
    | cons c l ih => intro hl; rw [Wh_ascii c (hl c List.mem_cons_self)]; exact ih (fun d hd => hl d (List.mem_cons_of_mem _ hd))
  exact key x (fun c hc => (h.2 c hc).2)
theorem Wo.isw {x : List UInt8} (h : Wo x) : wd x = true := by
  unfold wd; rw [decide_eq_false h.1]; rfl
theorem Wd_one {x : List UInt8} (h : Wo x) : Wd x = [x] := by
  unfold Wd
  rw [cutL_none 32 x (h.no (by decide))]
  simp [h.isw]
theorem Wd_more {x : List UInt8} (h : Wo x) (s : List UInt8) : Wd (x ++ 32 :: s) = x :: Wd s := by
  unfold Wd
  rw [cutL_app 32 x s (h.no (by decide)), List.filter_cons_of_pos h.isw]
def lin (x : List UInt8) (r : D4) : List UInt8 := x ++ Lib.joinTail [32] r
theorem lin_cons (x y : List UInt8) (r : D4) : lin x (y :: r) = x ++ 32 :: lin y r := by
  unfold lin
  rw [jt_cons]
  rfl
theorem lin_nil (x : List UInt8) : lin x [] = x := List.append_nil x
theorem ln_lin (x : List UInt8) (r : D4) : ln (x :: r) = lin x r ++ [10] := by
  rw [ln_cons]; unfold lin; rw [List.append_assoc]
theorem lin_facts : ∀ (r : D4) (x : List UInt8), Wo x → (∀ y ∈ r, Wo y) → Wd (lin x r) = x :: r ∧ 10 ∉ lin x r ∧ Wh (lin x r) = true
  | [], x, hx, _ => by rw [lin_nil]; exact ⟨Wd_one hx, hx.no (by decide), hx.wh⟩
  | y :: r, x, hx, hr => by
    obtain ⟨h1, h2, h3⟩ := lin_facts r y (hr y List.mem_cons_self) (fun z hz => hr z (List.mem_cons_of_mem _ hz))
    rw [lin_cons]
    refine ⟨by rw [Wd_more hx, h1], fun hm => ?_, by rw [Wh_app 32 (by decide) _ x.length x (Nat.le_refl _), hx.wh, h3]; rfl⟩
    rcases List.mem_append.1 hm with hm | hm
    · exact hx.no (by decide) hm
    · rcases List.mem_cons.1 hm with hm | hm
      · exact absurd hm (by decide)
      · exact h2 hm
theorem wo_of {x : List UInt8} (h1 : x ≠ []) (h2 : (x.all fun c => decide (36 ≤ c.toNat) && decide (c.toNat < 128)) = true) : Wo x := by
  refine ⟨h1, fun c hc => ?_⟩
  have := List.all_eq_true.1 h2 c hc
  simpa using this
theorem wo_tok : Wo wTok := wo_of (by decide) (by decide)
theorem wo_skip : Wo wSkip := wo_of (by decide) (by decide)
theorem wo_cls : Wo wCls := wo_of (by decide) (by decide)
theorem wo_sta : Wo wSta := wo_of (by decide) (by decide)
theorem wo_rul : Wo wRul := wo_of (by decide) (by decide)
theorem wo_colon : Wo [58] := wo_of (by decide) (by decide)
theorem wo_kd {k : Int} (h : 1 ≤ k ∧ k ≤ 3) : Wo (kdS k) := by
  have : k = 1 ∨ k = 2 ∨ k = 3 := by omega
  rcases this with rfl | rfl | rfl <;> exact wo_of (by decide) (by decide)
theorem wo_wd (sk : Bool) : Wo (Proofs.Wr.wdS sk) := by cases sk; exact wo_tok; exact wo_skip
theorem dg_ok {c : Nat} (h1 : 1 ≤ c) (h9 : c ≤ 9) : Wo (dg c) ∧ (dg c).length = 1 ∧ byteAt (dg c) 0 = 48 + (c : Int) := by
  have : c = 1 ∨ c = 2 ∨ c = 3 ∨ c = 4 ∨ c = 5 ∨ c = 6 ∨ c = 7 ∨ c = 8 ∨ c = 9 := by omega
  rcases this with rfl | rfl | rfl | rfl | rfl | rfl | rfl | rfl | rfl <;> exact ⟨wo_of (by decide) (by decide), rfl, by decide⟩
theorem trim_wo {x : List UInt8} (h : Wo x) (s : List UInt8) : trimB 32 (x ++ s) = x ++ s := by
  obtain ⟨h1, h2⟩ := h
  cases x with
  | nil => exact absurd rfl h1
  | cons c x =>
    rw [List.cons_append, trimB_cons, if_neg]
    intro e
    have := (h2 c List.mem_cons_self).1
    rw [e] at this
    exact absurd this (by decide)
theorem wR_wo {x : List UInt8} (h : ∀ c ∈ x, c ≠ 32) (s : List UInt8) : wR (x ++ 32 :: s) = 32 :: s := by
  induction x with
  | nil => rw [List.nil_append, wR_cons, if_pos rfl]
  | cons c x ih =>
    rw [List.cons_append, wR_cons, if_neg (h c List.mem_cons_self)]
    exact ih (fun d hd => h d (List.mem_cons_of_mem _ hd))
theorem nxt_wo {x : List UInt8} (h : Wo x) (s : List UInt8) : nxt (x ++ 32 :: s) = 32 :: s := by
  unfold nxt
  rw [trim_wo h]
  exact wR_wo (fun c hc e => by subst e; exact h.no (by decide) hc) s
theorem nxt_blank (s : List UInt8) : nxt (32 :: s) = nxt s := by
  unfold nxt
  rw [trimB_cons, if_pos rfl]
theorem u4_tok {x y : List UInt8} (hx : Wo x) (hy : Wo y) (s : List UInt8) : u4 (x ++ 32 :: (y ++ 32 :: s)) = 32 :: s := by
  unfold u4 u2
  rw [nxt_wo hx, nxt_blank, nxt_wo hy]
def glue : D4 → List UInt8
  | [] => []
  | l :: r => l ++ 10 :: glue r
theorem glue_app : ∀ (a b : D4), glue (a ++ b) = glue a ++ glue b
  | [], b => rfl
  | x :: a, b => by
    show x ++ 10 :: glue (a ++ b) = (x ++ 10 :: glue a) ++ glue b
    rw [glue_app a b, List.append_assoc]
    rfl
theorem glue_cut : ∀ (l : D4), (∀ x ∈ l, 10 ∉ x) → cutL 10 (glue l) = l ++ [[]]
  | [], _ => rfl
  | x :: l, h => by
    show cutL 10 (x ++ 10 :: glue l) = _
    rw [cutL_app 10 x _ (h x List.mem_cons_self), glue_cut l (fun y hy => h y (List.mem_cons_of_mem _ hy))]
    rfl
theorem glue_wh : ∀ (l : D4), (∀ x ∈ l, Wh x = true) → Wh (glue l) = true
  | [], _ => rfl
  | x :: l, h => by
    show Wh (x ++ 10 :: glue l) = true
    rw [Wh_app 10 (by decide) _ x.length x (Nat.le_refl _), h x List.mem_cons_self, glue_wh l (fun y hy => h y (List.mem_cons_of_mem _ hy))]
    rfl
theorem runL_app : ∀ (a c : D4) (g : Gm) (b : Bool), (runL a g b).1 = 0 → runL (a ++ c) g b = runL c (runL a g b).2.1 (runL a g b).2.2
  | [], c, g, b, _ => rfl
  | x :: a, c, g, b, h => by
    unfold runL at h
    show runL (x :: (a ++ c)) g b = _
    by_cases h0 : (stepL x g b).1 = 0
    · rw [if_pos h0] at h
      have e1 : runL (x :: (a ++ c)) g b = runL (a ++ c) (stepL x g b).2.1 (stepL x g b).2.2 := by conv => lhs; unfold runL; rw [if_pos h0]
      have e2 : runL (x :: a) g b = runL a (stepL x g b).2.1 (stepL x g b).2.2 := by conv => lhs; unfold runL; rw [if_pos h0]
      rw [e1, e2]
      exact runL_app a c _ _ h
    · rw [if_neg h0] at h; exact absurd h h0
theorem runL_cons {x : List UInt8} {l : D4} {g g' : Gm} {b b' : Bool} (h : stepL x g b = (0, (g', b'))) : runL (x :: l) g b = runL l g' b' := by
  conv => lhs; unfold runL
  rw [h]
  rfl
end Go.Proofs.YtogipciicekmoaaGreatDoor.Vm.Gz
namespace Go.Proofs.YtogipciicekmoaaGreatDoor.Vm.Gz
open Go Go.Proofs.YtogipciicekmoaaGreatDoor.Vm
open Go.Proofs.Wr (ln dg tksS prdsS ntsS stS txS okIn kdS)
set_option linter.unusedVariables false
set_option maxRecDepth 100000
theorem stepL_of {line w : List UInt8} {l : D4} (h : Wd line = w :: l) (hw : w.getD 0 0 ≠ 35) (g : Gm) (b : Bool) : stepL line g b = wordS w (w :: l) line g b := stepL_word h hw g b
def clsL (t : D2) : D4 := match t.2.2.2.toNat with
  | 0 => []
  | c + 1 => [lin wCls [t.1, dg (c + 1)]]
def tokL (t : D2) : D4 := lin (Proofs.Wr.wdS t.2.2.1) [t.1, t.2.1] :: clsL t
theorem tok_glue (t : D2) : Proofs.Wr.tokS t.1 t.2.1 t.2.2.1 t.2.2.2.toNat = glue (tokL t) := by
  unfold Proofs.Wr.tokS Proofs.Wr.clsS tokL clsL
  rw [ln_lin]
  cases t.2.2.2.toNat with
  | zero => rw [List.append_nil]; rfl
  | succ c =>
    show _ ++ ln [Proofs.Wr.wClass, t.1, dg (c + 1)] = _
    rw [ln_lin]
    show _ = lin (Proofs.Wr.wdS t.2.2.1) [t.1, t.2.1] ++ 10 :: (lin wCls [t.1, dg (c + 1)] ++ [10])
    rw [List.append_assoc]
    rfl
theorem tok_line {t : D2} (h : tokB t = true) : 10 ∉ lin (Proofs.Wr.wdS t.2.2.1) [t.1, t.2.1] ∧ Wh (lin (Proofs.Wr.wdS t.2.2.1) [t.1, t.2.1]) = true := by
  obtain ⟨h1, h2, h3, h4, _⟩ := tokB_facts h
  have hw := wo_wd t.2.2.1
  have hn := name_wo h1
  rw [lin_cons, lin_cons, lin_nil]
  refine ⟨fun hm => ?_, ?_⟩
  · rcases List.mem_append.1 hm with hm | hm
    · exact hw.no (by decide) hm
    rcases List.mem_cons.1 hm with hm | hm
    · exact absurd hm (by decide)
    rcases List.mem_append.1 hm with hm | hm
    · exact hn.no (by decide) hm
    rcases List.mem_cons.1 hm with hm | hm
    · exact absurd hm (by decide)
    · exact h4 hm
  · rw [Wh_app 32 (by decide) _ _ _ (Nat.le_refl _), Wh_app 32 (by decide) _ _ _ (Nat.le_refl _), hw.wh, hn.wh, h3]; rfl
theorem cls_line {t : D2} (h : tokB t = true) : ∀ x ∈ clsL t, 10 ∉ x ∧ Wh x = true := by
  obtain ⟨h1, _, _, _, h5, h6⟩ := tokB_facts h
  intro x hx
  unfold clsL at hx
  generalize hc : t.2.2.2.toNat = c at hx
  cases c with
  | zero => cases hx
  | succ c =>
    simp only [List.mem_singleton] at hx
    subst hx
    have hd := (dg_ok (c := c + 1) (by omega) (by omega)).1
    exact (lin_facts [t.1, dg (c + 1)] wCls wo_cls (by
      intro y hy
      simp only [List.mem_cons, List.not_mem_nil, or_false] at hy
      rcases hy with rfl | rfl
      · exact name_wo h1
      · exact hd)).2
theorem lastI_last (T : D3) (t : D2) : lastI (T ++ [t]) t.1 (T ++ [t]).length = some T.length := by
  rw [List.length_append]
  show lastI (T ++ [t]) t.1 (T.length + 1) = _
  refine lastI_pos ?_
  rw [getD_at zT (by simp)]
  simp
theorem setC_last (T : D3) (t : D2) (v : Int) : setC (T ++ [t]) T.length v = T ++ [(t.1, (t.2.1, (t.2.2.1, v)))] := by
  unfold setC
  rw [getD_at zT (by simp)]
  simp
theorem tok_step {t : D2} (h : tokB t = true) (g : Gm) (b : Bool) (hl : g.1.length < 32) : stepL (lin (Proofs.Wr.wdS t.2.2.1) [t.1, t.2.1]) g b = (0, ((g.1 ++ [(t.1, (t.2.1, (t.2.2.1, 0)))], g.2), b)) := by
  obtain ⟨h1, h2, h3, h4, _⟩ := tokB_facts h
  have hw := wo_wd t.2.2.1
  have hn := name_wo h1
  have hline : lin (Proofs.Wr.wdS t.2.2.1) [t.1, t.2.1] = Proofs.Wr.wdS t.2.2.1 ++ 32 :: (t.1 ++ 32 :: t.2.1) := by rw [lin_cons, lin_cons, lin_nil]
  have hu : (u4 (lin (Proofs.Wr.wdS t.2.2.1) [t.1, t.2.1])).tail = t.2.1 := by rw [hline, u4_tok hw hn]; rfl
  have hd : Wd (lin (Proofs.Wr.wdS t.2.2.1) [t.1, t.2.1]) = Proofs.Wr.wdS t.2.2.1 :: t.1 :: Wd t.2.1 := by rw [hline, Wd_more hw, Wd_more hn]
  rw [stepL_of hd (by cases t.2.2.1 <;> decide)]
  generalize lin (Proofs.Wr.wdS t.2.2.1) [t.1, t.2.1] = line at *
  have e : wordS (Proofs.Wr.wdS t.2.2.1) (Proofs.Wr.wdS t.2.2.1 :: t.1 :: Wd t.2.1) line g b = tokS (Proofs.Wr.wdS t.2.2.1 :: t.1 :: Wd t.2.1) line g b := by
    unfold wordS
    rw [if_pos]
    cases t.2.2.1
    · exact .inl rfl
    · exact .inr rfl
  rw [e]
  unfold tokS
  have e1 : (Proofs.Wr.wdS t.2.2.1 :: t.1 :: Wd t.2.1).getD 1 [] = t.1 := rfl
  have e0 : (Proofs.Wr.wdS t.2.2.1 :: t.1 :: Wd t.2.1).getD 0 [] = Proofs.Wr.wdS t.2.2.1 := rfl
  have e2 : decide (Proofs.Wr.wdS t.2.2.1 = wSkip) = t.2.2.1 := by cases t.2.2.1 <;> decide
  rw [hu, if_neg h2, e1, h1, if_neg (by simp), if_neg (by omega), e0, e2]
theorem cls_step {t : D2} (h : tokB t = true) (g : Gm) (T : D3) (hT : g.1 = T ++ [(t.1, (t.2.1, (t.2.2.1, 0)))]) (b : Bool) : runL (clsL t) g b = (0, ((T ++ [t], g.2), b)) := by
  obtain ⟨h1, _, _, _, h5, h6⟩ := tokB_facts h
  unfold clsL
  generalize hc : t.2.2.2.toNat = c
  cases c with
  | zero =>
    have : t.2.2.2 = 0 := by omega
    show (0, (g, b)) = _
    obtain ⟨g1, g2⟩ := g
    have hT : g1 = T ++ [(t.1, (t.2.1, (t.2.2.1, 0)))] := hT
    rw [hT, ← this]
  | succ c =>
    obtain ⟨hd, hd1, hd2⟩ := dg_ok (c := c + 1) (by omega) (by omega)
    have hf := (lin_facts [t.1, dg (c + 1)] wCls wo_cls (by
      intro y hy
      simp only [List.mem_cons, List.not_mem_nil, or_false] at hy
      rcases hy with rfl | rfl
      · exact name_wo h1
      · exact hd)).1
    have e : stepL (lin wCls [t.1, dg (c + 1)]) g b = (0, ((T ++ [t], g.2), b)) := by
      rw [stepL_of hf (by decide)]
      have e1 : wordS wCls [wCls, t.1, dg (c + 1)] (lin wCls [t.1, dg (c + 1)]) g b = clsS [wCls, t.1, dg (c + 1)] g b := by
        unfold wordS
        rw [if_neg (by decide), if_pos rfl]
      rw [e1]
      unfold clsS
      have g2 : ([wCls, t.1, dg (c + 1)] : D4).getD 2 [] = dg (c + 1) := rfl
      have g1 : ([wCls, t.1, dg (c + 1)] : D4).getD 1 [] = t.1 := rfl
      rw [if_neg (by unfold clsBad; rw [g2, hd1, hd2]; simp only [List.length_cons, List.length_nil]; omega), g1, g2, hT]
      have hl := lastI_last T (t.1, (t.2.1, (t.2.2.1, 0)))
      generalize hu : ((t.1, (t.2.1, (t.2.2.1, 0))) : D2) = u at *
      have hu1 : t.1 = u.1 := by rw [← hu]
      show (match lastI (T ++ [u]) t.1 (T ++ [u]).length with
        | none => ((31, (g, b)) : Rs)
        | some i => (0, ((setC (T ++ [u]) i (byteAt (dg (c + 1)) 0 - 48), g.2), b))) = _
      rw [hu1, hl]
      dsimp only
      rw [setC_last, hd2]
      have h48 : (48 + ((c + 1 : Nat) : Int) - 48) = t.2.2.2 := by omega
      rw [h48, ← hu]
    show runL [lin wCls [t.1, dg (c + 1)]] g b = _
    rw [runL_cons e]
    rfl
def tksL : D3 → D4
  | [] => []
  | t :: l => tokL t ++ tksL l
theorem tks_glue : ∀ l : D3, tksS l = glue (tksL l)
  | [] => rfl
  | t :: l => by
    show Proofs.Wr.tokS t.1 t.2.1 t.2.2.1 t.2.2.2.toNat ++ tksS l = glue (tokL t ++ tksL l)
    rw [glue_app, tok_glue, tks_glue l]
theorem tks_line : ∀ l : D3, (∀ t ∈ l, tokB t = true) → ∀ x ∈ tksL l, 10 ∉ x ∧ Wh x = true
  | [], _, x, hx => by cases hx
  | t :: l, h, x, hx => by
    rcases List.mem_append.1 hx with hx | hx
    · rcases List.mem_cons.1 hx with rfl | hx
      · exact tok_line (h t List.mem_cons_self)
      · exact cls_line (h t List.mem_cons_self) x hx
    · exact tks_line l (fun t ht => h t (List.mem_cons_of_mem _ ht)) x hx
theorem tks_run : ∀ (l : D3) (T : D3) (g2 : D10) (b : Bool), (∀ t ∈ l, tokB t = true) → T.length + l.length ≤ 32 → runL (tksL l) (T, g2) b = (0, ((T ++ l, g2), b))
  | [], T, g2, b, _, _ => by rw [List.append_nil]; rfl
  | t :: l, T, g2, b, h, hl => by
    have ht := h t List.mem_cons_self
    rw [List.length_cons] at hl
    have e1 : runL (tokL t) (T, g2) b = (0, ((T ++ [t], g2), b)) := by
      show runL (lin (Proofs.Wr.wdS t.2.2.1) [t.1, t.2.1] :: clsL t) (T, g2) b = _
      rw [runL_cons (tok_step ht (T, g2) b (show T.length < 32 by omega)), cls_step ht _ T rfl]
    show runL (tokL t ++ tksL l) (T, g2) b = _
    rw [runL_app _ _ _ _ (by rw [e1]), e1]
    show runL (tksL l) (T ++ [t], g2) b = _
    rw [tks_run l (T ++ [t]) g2 b (fun t ht => h t (List.mem_cons_of_mem _ ht)) (by simp only [List.length_append, List.length_cons, List.length_nil]; omega), List.append_assoc]
    rfl
def staL (s : List UInt8) : D4 := match s with
  | [] => []
  | c :: r => [lin wSta [c :: r]]
theorem sta_glue (s : List UInt8) : stS s = glue (staL s) := by
  cases s with
  | nil => rfl
  | cons c r => show ln [Proofs.Wr.wStart, c :: r] = _; rw [ln_lin]; rfl
theorem sta_facts {s : List UInt8} (h : nameB s = true) : Wd (lin wSta [s]) = [wSta, s] ∧ 10 ∉ lin wSta [s] ∧ Wh (lin wSta [s]) = true :=
  lin_facts [s] wSta wo_sta (by intro y hy; simp only [List.mem_singleton] at hy; subst hy; exact name_wo h)
theorem sta_run {s : List UInt8} (h : s = [] ∨ nameB s = true) (T : D3) (g3 : D9) : ∃ b, runL (staL s) (T, ([], g3)) false = (0, ((T, (s, g3)), b)) := by
  cases s with
  | nil => exact ⟨false, rfl⟩
  | cons c r =>
    have h : nameB (c :: r) = true := h.resolve_left (by simp)
    refine ⟨true, ?_⟩
    have e : stepL (lin wSta [c :: r]) (T, ([], g3)) false = (0, ((T, (c :: r, g3)), true)) := by
      rw [stepL_of (sta_facts h).1 (by decide)]
      have e1 : ∀ line g b, wordS wSta [wSta, c :: r] line g b = staS [wSta, c :: r] g b := fun line g b => by
        unfold wordS
        rw [if_neg (by decide), if_neg (by decide), if_pos rfl]
      rw [e1]
      unfold staS
      have g1 : ([wSta, c :: r] : D4).getD 1 [] = c :: r := rfl
      rw [if_neg (by simp), g1, h, if_neg (by simp), if_neg (by simp)]
    show runL [lin wSta [c :: r]] _ _ = _
    rw [runL_cons e]
    rfl
def prdL (l : D6) : D4 := l.map fun p => lin wRul (p.1 :: [58] :: p.2)
def nteL (l : D8) : D4 := l.map fun n => lin (kdS n.1) n.2
theorem prd_glue : ∀ l : D6, prdsS l = glue (prdL l)
  | [] => rfl
  | p :: l => by
    show ln (Proofs.Wr.wRule :: p.1 :: [58] :: p.2) ++ prdsS l = lin wRul (p.1 :: [58] :: p.2) ++ 10 :: glue (prdL l)
    rw [ln_lin, prd_glue l, List.append_assoc]
    rfl
theorem nte_glue : ∀ l : D8, ntsS l = glue (nteL l)
  | [] => rfl
  | n :: l => by
    show ln (kdS n.1 :: n.2) ++ ntsS l = lin (kdS n.1) n.2 ++ 10 :: glue (nteL l)
    rw [ln_lin, nte_glue l, List.append_assoc]
    rfl
theorem all_wo {l : D4} (h : l.all nameB = true) : ∀ y ∈ l, Wo y := fun y hy => name_wo (List.all_eq_true.1 h y hy)
theorem prd_facts {p : D5} (h : prdB p = true) : Wd (lin wRul (p.1 :: [58] :: p.2)) = wRul :: p.1 :: [58] :: p.2 ∧ 10 ∉ lin wRul (p.1 :: [58] :: p.2) ∧ Wh (lin wRul (p.1 :: [58] :: p.2)) = true := by
  obtain ⟨h1, h2, h3⟩ := prdB_facts h
  refine lin_facts _ wRul wo_rul fun y hy => ?_
  rcases List.mem_cons.1 hy with rfl | hy
  · exact name_wo h1
  rcases List.mem_cons.1 hy with rfl | hy
  · exact wo_colon
  · exact all_wo h3 y hy
theorem nte_facts {n : D7} (h : nteB n = true) : Wd (lin (kdS n.1) n.2) = kdS n.1 :: n.2 ∧ 10 ∉ lin (kdS n.1) n.2 ∧ Wh (lin (kdS n.1) n.2) = true := by
  obtain ⟨h1, h2⟩ := nteB_facts h
  exact lin_facts _ _ (wo_kd (arS_facts h1).1) (all_wo h2)
theorem prd_run : ∀ (l : D6) (T : D3) (s : List UInt8) (Q : D6) (N : D8) (b : Bool), (∀ p ∈ l, prdB p = true) → Q.length + l.length ≤ 64 → runL (prdL l) (T, (s, (Q, N))) b = (0, ((T, (s, (Q ++ l, N))), b))
  | [], T, s, Q, N, b, _, _ => by rw [List.append_nil]; rfl
  | p :: l, T, s, Q, N, b, h, hl => by
    have hp := h p List.mem_cons_self
    obtain ⟨h1, h2, h3⟩ := prdB_facts hp
    rw [List.length_cons] at hl
    have e : stepL (lin wRul (p.1 :: [58] :: p.2)) (T, (s, (Q, N))) b = (0, ((T, (s, (Q ++ [p], N))), b)) := by
      rw [stepL_of (prd_facts hp).1 (by decide)]
      have e1 : ∀ line g b, wordS wRul (wRul :: p.1 :: [58] :: p.2) line g b = rulS (wRul :: p.1 :: [58] :: p.2) g b := fun line g b => by
        unfold wordS
        rw [if_neg (by decide), if_neg (by decide), if_neg (by decide), if_pos rfl]
      rw [e1]
      unfold rulS
      have g2 : (wRul :: p.1 :: [58] :: p.2).getD 2 [] = [58] := rfl
      have g1 : (wRul :: p.1 :: [58] :: p.2).getD 1 [] = p.1 := rfl
      have g3 : (wRul :: p.1 :: [58] :: p.2).drop 3 = p.2 := rfl
      rw [g1, g2, g3, h1, h3, if_neg (by simp), if_neg (by simp), if_neg (by simp only [List.length_cons]; omega)]
    show runL (lin wRul (p.1 :: [58] :: p.2) :: prdL l) _ _ = _
    rw [runL_cons e, prd_run l T s (Q ++ [p]) N b (fun p hp => h p (List.mem_cons_of_mem _ hp)) (by simp only [List.length_append, List.length_cons, List.length_nil]; omega), List.append_assoc]
    rfl
theorem kind_kd {k : Int} (h : 1 ≤ k ∧ k ≤ 3) : kindOf (kdS k) = k ∧ (kdS k).getD 0 0 ≠ 35 ∧ (∀ l line g b, wordS (kdS k) l line g b = notS (kindOf (kdS k)) l g b) := by
  have : k = 1 ∨ k = 2 ∨ k = 3 := by omega
  rcases this with rfl | rfl | rfl <;> exact ⟨by decide, by decide, fun l line g b => by unfold wordS; rw [if_neg (by decide), if_neg (by decide), if_neg (by decide), if_neg (by decide), if_pos (by decide)]⟩
theorem nte_run : ∀ (l : D8) (T : D3) (s : List UInt8) (Q : D6) (N : D8) (b : Bool), (∀ n ∈ l, nteB n = true) → N.length + l.length ≤ 16 → runL (nteL l) (T, (s, (Q, N))) b = (0, ((T, (s, (Q, N ++ l))), b))
  | [], T, s, Q, N, b, _, _ => by rw [List.append_nil]; rfl
  | n :: l, T, s, Q, N, b, h, hl => by
    have hp := h n List.mem_cons_self
    obtain ⟨h1, h2⟩ := nteB_facts hp
    obtain ⟨k1, k2, k3⟩ := kind_kd (arS_facts h1).1
    rw [List.length_cons] at hl
    have e : stepL (lin (kdS n.1) n.2) (T, (s, (Q, N))) b = (0, ((T, (s, (Q, N ++ [n]))), b)) := by
      rw [stepL_of (nte_facts hp).1 k2, k3, k1]
      unfold notS
      have g1 : (kdS n.1 :: n.2).drop 1 = n.2 := rfl
      have g2 : (kdS n.1 :: n.2).length - 1 = n.2.length := by simp
      rw [g1, g2, h1, h2, if_neg (by simp), if_neg (by simp), if_neg (show ¬ N.length = 16 by omega)]
    show runL (lin (kdS n.1) n.2 :: nteL l) _ _ = _
    rw [runL_cons e, nte_run l T s Q (N ++ [n]) b (fun p hp => h p (List.mem_cons_of_mem _ hp)) (by simp only [List.length_append, List.length_cons, List.length_nil]; omega), List.append_assoc]
    rfl
def linesG (g : Gm) : D4 := tksL g.1 ++ (staL g.2.1 ++ (prdL g.2.2.1 ++ nteL g.2.2.2))
theorem txG_glue (g : Gm) : txG g = glue (linesG g) := by
  unfold linesG txG txS
  rw [glue_app, glue_app, glue_app, tks_glue, sta_glue, prd_glue, nte_glue]
  simp only [List.append_assoc]
theorem lines_all {g : Gm} (hr : Rt g) : ∀ x ∈ linesG g, 10 ∉ x ∧ Wh x = true := by
  intro x hx
  unfold linesG at hx
  rcases List.mem_append.1 hx with hx | hx
  · exact tks_line g.1 hr.ts x hx
  rcases List.mem_append.1 hx with hx | hx
  · rcases hr.s with hs | hs
    · rw [hs] at hx; cases hx
    · unfold staL at hx
      split at hx
      · cases hx
      · rename_i c r e
        simp only [List.mem_singleton] at hx
        subst hx
        rw [e] at hs
        exact (sta_facts hs).2
  rcases List.mem_append.1 hx with hx | hx
  · obtain ⟨p, hp, rfl⟩ := List.mem_map.1 hx
    exact (prd_facts (hr.ps p hp)).2
  · obtain ⟨n, hn, rfl⟩ := List.mem_map.1 hx
    exact (nte_facts (hr.ns n hn)).2
theorem lines_run {g : Gm} (hr : Rt g) : ∃ b, runL (linesG g ++ [[]]) zG false = (0, (g, b)) := by
  have e1 := tks_run g.1 [] ([], ([], [])) false hr.ts (by have := hr.t; simpa using this)
  obtain ⟨b, e2⟩ := sta_run hr.s g.1 ([], [])
  have e3 := prd_run g.2.2.1 g.1 g.2.1 [] [] b hr.ps (by have := hr.p; simpa using this)
  have e4 := nte_run g.2.2.2 g.1 g.2.1 g.2.2.1 [] b hr.ns (by have := hr.n; simpa using this)
  rw [List.nil_append] at e1 e3 e4
  refine ⟨b, ?_⟩
  unfold linesG
  rw [List.append_assoc, List.append_assoc, List.append_assoc]
  have z : zG = (([] : D3), (([] : List UInt8), (([] : D6), ([] : D8)))) := rfl
  rw [z, runL_app _ _ _ _ (by rw [e1]), e1]
  show runL (staL g.2.1 ++ (prdL g.2.2.1 ++ (nteL g.2.2.2 ++ [[]]))) (g.1, ([], ([], []))) false = _
  rw [runL_app _ _ _ _ (by rw [e2]), e2]
  show runL (prdL g.2.2.1 ++ (nteL g.2.2.2 ++ [[]])) (g.1, (g.2.1, ([], []))) b = _
  rw [runL_app _ _ _ _ (by rw [e3]), e3]
  show runL (nteL g.2.2.2 ++ [[]]) (g.1, (g.2.1, (g.2.2.1, []))) b = _
  rw [runL_app _ _ _ _ (by rw [e4]), e4]
  rfl
theorem read_back {g : Gm} (hr : Rt g) (hl : (txG g).length ≤ 4000) : readS (txG g) = (g, 0) := by
  have hc : cutL 10 (txG g) = linesG g ++ [[]] := by rw [txG_glue]; exact glue_cut _ fun x hx => (lines_all hr x hx).1
  have hw : Wh (txG g) = true := by rw [txG_glue]; exact glue_wh _ fun x hx => (lines_all hr x hx).2
  obtain ⟨b, hb⟩ := lines_run hr
  unfold readS
  rw [if_neg (by omega), hw, if_neg (by simp), hc, hb]
  rfl
theorem iteB_two {α : Type} (c : Bool) (a b : Option α) : iteB c a b = a ∨ iteB c a b = b := by cases c; exact .inr rfl; exact .inl rfl
theorem back_in (a3 : law10_GramBack.T3) (g : Gm) (i : Nat) (hi : i < g.1.length) (hl : g.1.length ≤ 50) : ∀ (d n j : Nat), j + d = i → d < n → law10_GramBack.p4 fuel a3 n (i : Int) (j : Int) g = some (true, ()) ∨ law10_GramBack.p4 fuel a3 n (i : Int) (j : Int) g = a3 (w64 ((i : Int) + 1)) g := by
  intro d
  induction d with
  | zero =>
    intro n j h1 hn
    obtain ⟨n', rfl⟩ : ∃ n', n = n' + 1 := ⟨n - 1, by omega⟩
    have hj : j = i := by omega
    subst hj
    have e1 : law10_GramBack.p4 fuel a3 (n' + 1) (j : Int) (j : Int) g = law10_GramBack.t4 (law10_GramBack.p4 fuel a3 n') (law10_GramBack.p6 fuel a3) (j : Int) (j : Int) g := rfl
    unfold law10_GramBack.t4 at e1
    rw [iteB_neg lt_no] at e1
    exact .inr e1
  | succ d ih =>
    intro n j h1 hn
    obtain ⟨n', rfl⟩ : ∃ n', n = n' + 1 := ⟨n - 1, by omega⟩
    have e1 : law10_GramBack.p4 fuel a3 (n' + 1) (i : Int) (j : Int) g = law10_GramBack.t4 (law10_GramBack.p4 fuel a3 n') (law10_GramBack.p6 fuel a3) (i : Int) (j : Int) g := rfl
    unfold law10_GramBack.t4 at e1
    rw [iteB_pos (lt_dec (by omega)), withinR_nat (by omega), withinR_nat hi, w64_succ (by omega)] at e1
    rw [e1]
    refine (iteB_two _ _ _).elim (fun h => .inl h) (fun h => ?_)
    exact (ih n' (j + 1) (by omega) (by omega)).elim (fun k => .inl (h.trans k)) (fun k => .inr (h.trans k))
theorem back_loop (g : Gm) (hl : g.1.length ≤ 50) (h5 : law10_GramBack.p5 fuel g = some (true, ())) : ∀ (d n i : Nat), i + d = g.1.length → d < n → law10_GramBack.p3 fuel n (i : Int) g = some (true, ()) := by
  intro d
  induction d with
  | zero =>
    intro n i h1 hn
    obtain ⟨n', rfl⟩ : ∃ n', n = n' + 1 := ⟨n - 1, by omega⟩
    have hi : i = g.1.length := by omega
    subst hi
    have e1 : law10_GramBack.p3 fuel (n' + 1) (g.1.length : Int) g = law10_GramBack.t3 (law10_GramBack.p4 fuel (law10_GramBack.p3 fuel n') fuel) (law10_GramBack.p5 fuel) (g.1.length : Int) g := rfl
    unfold law10_GramBack.t3 at e1
    rw [iteB_neg lt_no] at e1
    rw [e1, h5]
  | succ d ih =>
    intro n i h1 hn
    obtain ⟨n', rfl⟩ : ∃ n', n = n' + 1 := ⟨n - 1, by omega⟩
    have hi : i < g.1.length := by omega
    have e1 : law10_GramBack.p3 fuel (n' + 1) (i : Int) g = law10_GramBack.t3 (law10_GramBack.p4 fuel (law10_GramBack.p3 fuel n') fuel) (law10_GramBack.p5 fuel) (i : Int) g := rfl
    unfold law10_GramBack.t3 at e1
    rw [iteB_pos (lt_dec hi)] at e1
    rw [e1]
    rcases back_in (law10_GramBack.p3 fuel n') g i hi hl i fuel 0 (by omega) (fuel_gt _ (by omega)) with h | h
    · exact h
    · refine h.trans ?_
      rw [w64_succ (by omega)]
      exact ih n' (i + 1) (by omega) (by omega)
theorem gramBack_law (g : Gm) : s_law10_GramBack (g, ()) = some (true, ()) := by
  have e : s_law10_GramBack (g, ()) = bindR (s_law10_alive ()) fun r1 => iteB (notB r1.1) (some (false, ())) (bindR (s_law10_Great (g, ())) fun r2 => iteB r2.1 (law10_GramBack.p1 fuel true g) (bindR (s_ref10_Right (g, ())) fun r3 => law10_GramBack.p1 fuel (notB r3.1) g)) := rfl
  have e1 : law10_GramBack.p1 fuel true g = some (true, ()) := rfl
  have e2 : law10_GramBack.p1 fuel false g = law10_GramBack.p3 fuel fuel ((0 : Nat) : Int) g := rfl
  rw [e, alive_eq, bindR_val, notB_eq, Bool.not_true, iteB_false, great_eq, bindR_val]
  cases h : smallB g with
  | false => rw [Bool.not_false, iteB_true, e1]
  | true =>
    have hg := small_lt h
    rw [Bool.not_true, iteB_false, rright_all hg, bindR_val, notB_eq]
    cases hr : rightB g with
    | false => rw [Bool.not_false, e1]
    | true =>
      have hrt := rt_of hr
      rw [Bool.not_true, e2]
      refine back_loop g hg.t ?_ g.1.length fuel 0 (by omega) (fuel_gt _ (by have := hg.t; omega))
      have e5 : law10_GramBack.p5 fuel g = bindR (s_Text (g, ())) fun r6 => iteB (!decide (r6.1.2 = 0)) (some (decide (r6.1.2 = 4), ())) (bindR (s_gram_Read (r6.1.1, ())) fun r7 => iteB (decide (r7.1.2 = 0)) (bindR (s_ref10_Same (g, (r7.1.1, ()))) fun r8 => some (r8.1, ())) (some (false, ()))) := rfl
      rw [e5, text_eq hg, bindR_val]
      unfold txA
      rw [hr]
      dsimp only
      unfold txV
      by_cases hl : (txG g).length > 4000
      · rw [decide_eq_true hl]; rfl
      · rw [decide_eq_false hl]
        dsimp only
        have hs : Sm g := ⟨hrt.t, hrt.p, hrt.n⟩
        rw [decide_eq_true rfl, Bool.not_true, iteB_false, read_eq _ (by omega), bindR_val, read_back hrt (by omega)]
        dsimp only
        rw [decide_eq_true rfl, iteB_true, same_self g hs (fun p hp => by have := (hg.ps p hp).2.1; omega) (fun n hn => by have := (hg.ns n hn).1; omega), bindR_val]
end Go.Proofs.YtogipciicekmoaaGreatDoor.Vm.Gz
namespace Go.Proofs.YtogipciicekmoaaGreatDoor.Vm.Gz
open Go Go.Proofs.YtogipciicekmoaaGreatDoor.Vm
theorem F_back : F_law10_GramBack.f = s_law10_GramBack := by kernel_rfl
end Go.Proofs.YtogipciicekmoaaGreatDoor.Vm.Gz
