/- The plain laws of descriptions. -/
import Derived.Test.YtogipciicekmoaaGreatDoorVm3
import Derived.Test.YtogipciicekmoaaGreatDoorFnsB
namespace Go.Proofs.YtogipciicekmoaaGreatDoor.Vm
open Go
section
variable {α β : Type}
@[simp] theorem iteB_true (a b : Option α) : iteB true a b = a := rfl
@[simp] theorem iteB_false (a b : Option α) : iteB false a b = b := rfl
@[simp] theorem mustR_true (κ : Option α) : mustR true κ = κ := rfl
@[simp] theorem bindR_val (y : β) (κ : β → Option α) : bindR (some y) κ = κ y := rfl
theorem iteB_eq (c : Bool) (a b : Option α) : iteB c a b = if c = true then a else b := by cases c <;> rfl
theorem iteB_pos {c : Bool} (h : c = true) (a b : Option α) : iteB c a b = a := by subst h; rfl
theorem iteB_neg {c : Bool} (h : c = false) (a b : Option α) : iteB c a b = b := by subst h; rfl
theorem iteB_dec {p : Prop} [Decidable p] (a b : Option α) : iteB (decide p) a b = if p then a else b := by
  by_cases h : p
  · rw [if_pos h]; exact iteB_pos (decide_eq_true h) a b
  · rw [if_neg h]; exact iteB_neg (decide_eq_false h) a b
theorem mustR_pos {c : Bool} (h : c = true) (κ : Option α) : mustR c κ = κ := by subst h; rfl
theorem mustR_dec {p : Prop} [Decidable p] (h : p) (κ : Option α) : mustR (decide p) κ = κ := mustR_pos (decide_eq_true h) κ
theorem withinR_nat {i n : Nat} (h : i < n) (κ : Nat → Option α) : withinR (i : Int) n κ = κ i := by
  unfold withinR
  rw [mustR_dec (by omega), mustR_dec (by omega)]; rfl
theorem withinR_pos {i : Int} {n : Nat} (h0 : 0 ≤ i) (h : i < n) (κ : Nat → Option α) : withinR i n κ = κ i.toNat := by
  unfold withinR
  rw [mustR_dec h0, mustR_dec h]
theorem withinR_zero {n : Nat} (h : 0 < n) (κ : Nat → Option α) : withinR 0 n κ = κ 0 := withinR_nat (i := 0) h κ
theorem notB_eq (b : Bool) : notB b = !b := rfl
@[simp] theorem notB_true : notB true = false := rfl
@[simp] theorem notB_false : notB false = true := rfl
theorem w64_id {n : Int} (h0 : -9223372036854775808 ≤ n) (h1 : n < 9223372036854775808) : w64 n = n := by
  simp [w64, IntKind.wrap, IntKind.bits, IntKind.signed]; omega
theorem w8_id {n : Int} (h0 : 0 ≤ n) (h1 : n < 256) : w8 n = n := by
  simp [w8, IntKind.wrap, IntKind.bits, IntKind.signed]; omega
theorem byteAt_range (l : List UInt8) (i : Nat) : 0 ≤ byteAt l i ∧ byteAt l i < 256 := by
  have := (List.getD l i 0).toNat_lt
  unfold byteAt; omega
theorem w64_byte (l : List UInt8) (i : Nat) : w64 (byteAt l i) = byteAt l i := by
  have := byteAt_range l i
  exact w64_id (by omega) (by omega)
theorem bits_nat (x : Nat) (h : x < 18446744073709551616) : (BitVec.ofInt 64 (x : Int)).toNat = x := by
  rw [BitVec.toNat_ofInt]
  omega
theorem w64_nat {n : Nat} (h : n < 9223372036854775808) : w64 (n : Int) = n := w64_id (by omega) (by omega)
theorem bitI_or (x y : Nat) (hx : x < 9223372036854775808) (hy : y < 9223372036854775808) : bitI .or .i64 (x : Int) (y : Int) = ((x ||| y : Nat) : Int) := by
  have h : x ||| y < 2 ^ 63 := Nat.or_lt_two_pow (by omega) (by omega)
  have e : bitI .or .i64 (x : Int) (y : Int) = w64 (((BitVec.ofInt 64 (x : Int) ||| BitVec.ofInt 64 (y : Int)).toNat : Nat) : Int) := rfl
  rw [e, BitVec.toNat_or, bits_nat x (by omega), bits_nat y (by omega)]
  exact w64_nat (by omega)
theorem or_add (a b k : Nat) (h : b < 2 ^ k) : (a * 2 ^ k) ||| b = a * 2 ^ k + b := by
  rw [← Nat.shiftLeft_eq, Nat.shiftLeft_add_eq_or_of_lt h]
theorem bitI_shl_or (n m : Nat) (hn : n < 70368744177664) (hm : m < 64) : bitI .or .i64 (shlI .i64 (n : Int) 6) (m : Int) = ((64 * n + m : Nat) : Int) := by
  have e : shlI .i64 (n : Int) 6 = ((n * 2 ^ 6 : Nat) : Int) := by
    show w64 ((n : Int) * 2 ^ 6) = _
    rw [w64_id (by omega) (by omega)]; omega
  rw [e, bitI_or _ _ (by omega) (by omega), or_add n m 6 (by omega)]
  omega
theorem bitI_and_u8 : ∀ c : Nat, c < 256 → bitI .and .u8 (c : Int) 63 = ((c % 64 : Nat) : Int) ∧ (decide (bitI .and .u8 (c : Int) 192 = 128) = decide (128 ≤ c ∧ c ≤ 191)) := by
  decide +kernel
end
end Go.Proofs.YtogipciicekmoaaGreatDoor.Vm
namespace Go.Proofs.YtogipciicekmoaaGreatDoor.Vm.Gz
open Go Go.Proofs.YtogipciicekmoaaGreatDoor.Vm
set_option linter.unusedVariables false
set_option maxRecDepth 100000
theorem fuel_gt (n : Nat) (h : n < 1000000000000000) : n < fuel := by unfold fuel; omega
section
variable {z : Nat}
def isF (c : UInt8) : Bool := decide (128 ≤ c.toNat ∧ c.toNat ≤ 191)
theorem isFollower_eq (c : UInt8) : s_runes_isFollower ((c.toNat : Int), ()) = some (isF c, ()) := by
  simp only [s_runes_isFollower, runes_isFollower.p0, runes_isFollower.t0, isF]
  rw [(bitI_and_u8 c.toNat c.toNat_lt).2]
def sgn (n : Int) : Bool := decide (0 ≤ n) && (decide (n < 1114112) && (decide (n < 55296) || decide (57343 < n)))
def enc (n : Nat) : List UInt8 :=
  if n < 128 then [UInt8.ofNat n]
  else if n < 2048 then [UInt8.ofNat (192 + n / 64), UInt8.ofNat (128 + n % 64)]
  else if n < 65536 then [UInt8.ofNat (224 + n / 4096), UInt8.ofNat (128 + n / 64 % 64), UInt8.ofNat (128 + n % 64)]
  else [UInt8.ofNat (240 + n / 262144), UInt8.ofNat (128 + n / 4096 % 64), UInt8.ofNat (128 + n / 64 % 64), UInt8.ofNat (128 + n % 64)]
def n2 (a d : UInt8) : Nat := 64 * (a.toNat - 192) + d.toNat % 64
def n3 (a d e : UInt8) : Nat := 64 * (64 * (a.toNat - 224) + d.toNat % 64) + e.toNat % 64
def n4 (a d e f : UInt8) : Nat := 64 * (64 * (64 * (a.toNat - 240) + d.toNat % 64) + e.toNat % 64) + f.toNat % 64
def no : Int × Int := (-1, 0)
def dec2 (a : UInt8) : List UInt8 → Int × Int
  | d :: _ => if (isF d && decide (128 ≤ n2 a d)) = true then ((n2 a d : Int), 2) else no
  | _ => no
def dec3 (a : UInt8) : List UInt8 → Int × Int
  | d :: e :: _ => if (isF d && isF e && decide (2048 ≤ n3 a d e) && sgn (n3 a d e)) = true then ((n3 a d e : Int), 3) else no
  | _ => no
def dec4 (a : UInt8) : List UInt8 → Int × Int
  | d :: e :: f :: _ => if (isF d && isF e && isF f && decide (65536 ≤ n4 a d e f) && sgn (n4 a d e f)) = true then ((n4 a d e f : Int), 4) else no
  | _ => no
def dec : List UInt8 → Int × Int
  | [] => no
  | a :: r => if a.toNat < 128 then ((a.toNat : Int), 1) else if a.toNat < 192 then no else if a.toNat < 224 then dec2 a r else if a.toNat < 240 then dec3 a r else if a.toNat < 248 then dec4 a r else no
theorem isSign_eq (n : Int) : s_runes_isSign (n, ()) = some (sgn n, ()) := by
  simp only [s_runes_isSign, runes_isSign.p0, runes_isSign.t0, iteB_dec, sgn]
  by_cases h0 : 0 ≤ n <;> by_cases h1 : n < 1114112 <;> by_cases h2 : n < 55296 <;> simp [h0, h1, h2]
theorem rsign_eq (n : Int) : s_ref01_Sign (n, ()) = some (sgn n, ()) := by
  simp only [s_ref01_Sign, ref01_Sign.p0, ref01_Sign.t0, iteB_dec, sgn, notB_eq]
  by_cases h0 : 0 ≤ n <;> by_cases h1 : n < 1114112 <;> rcases Int.lt_or_le n 55296 with h2 | h2 <;> rcases Int.lt_or_le 57343 n with h3 | h3 <;> simp [h0, h1, h2, h3, Int.not_le.2, Int.not_lt.2] <;> omega
theorem byteAt0 (a : UInt8) (r : List UInt8) : byteAt (a :: r) 0 = (a.toNat : Int) := rfl
theorem shapeOf_eq (c : UInt8) : s_runes_shapeOf ((c.toNat : Int), ()) = some ((if c.toNat < 128 then (1, 0, 0) else if c.toNat < 192 then (0, 0, 0) else if c.toNat < 224 then (2, 192, 128) else if c.toNat < 240 then (3, 224, 2048) else if c.toNat < 248 then (4, 240, 65536) else (0, 0, 0)), ()) := by
  have hc := c.toNat_lt
  simp only [s_runes_shapeOf, runes_shapeOf.p0, runes_shapeOf.t0, runes_shapeOf.p1, runes_shapeOf.t1, runes_shapeOf.p2, runes_shapeOf.t2, runes_shapeOf.p3, runes_shapeOf.t3, runes_shapeOf.p4, runes_shapeOf.t4, iteB_dec, iteB_false]
  generalize c.toNat = x at *
  by_cases h1 : x < 128
  · rw [if_pos (by omega), if_pos h1]
  rw [if_neg (by omega), if_neg h1]
  by_cases h2 : x < 192
  · rw [if_neg (by omega), if_neg (by omega), if_neg (by omega), if_pos h2]
  rw [if_pos (by omega), if_neg h2]
  by_cases h3 : x < 224
  · rw [if_pos (by omega), if_pos h3]
  rw [if_neg (by omega), if_pos (by omega), if_neg h3]
  by_cases h4 : x < 240
  · rw [if_pos (by omega), if_pos h4]
  rw [if_neg (by omega), if_pos (by omega), if_neg h4]
  by_cases h5 : x < 248
  · rw [if_pos (by omega), if_pos h5]
  rw [if_neg (by omega), if_neg h5]
theorem p3_step (k m : Nat) (s : List UInt8) (x : Int) (i : Nat) (n : Nat) (hd le : Int) (hi : i < n) (hn : n ≤ 10) (hs : i < s.length) (h0 : 0 ≤ x) (h1 : x < 70368744177664) :
    runes_First.p3 k (m + 1) s x i (n, hd, le) = if isF (s.getD i 0) = true then runes_First.p3 k m s (64 * x + ((s.getD i 0).toNat % 64 : Nat)) (i + 1 : Nat) (n, hd, le) else some ((-1, 0), ()) := by
  obtain ⟨z, rfl⟩ : ∃ z : Nat, x = z := ⟨x.toNat, by omega⟩
  show runes_First.t3 (runes_First.p3 k m) (runes_First.p4 k) s z i (n, hd, le) = _
  simp only [runes_First.t3, iteB_dec]
  rw [if_pos (by omega), withinR_nat hs]
  show bindR (s_runes_isFollower (((s.getD i 0).toNat : Int), ())) _ = _
  rw [isFollower_eq, bindR_val]
  have hb := (s.getD i 0).toNat_lt
  cases hF : isF (s.getD i 0) with
  | false => rfl
  | true =>
    simp only [notB_true, iteB_false, if_true, withinR_nat hs]
    rw [w64_id (n := (i : Int) + 1) (by omega) (by omega)]
    have e : w64 (bitI .and .u8 (byteAt s i) 63) = (((s.getD i 0).toNat % 64 : Nat) : Int) := by
      show w64 (bitI .and .u8 ((s.getD i 0).toNat : Int) 63) = _
      rw [(bitI_and_u8 _ hb).1, w64_nat (by omega)]
    rw [e, bitI_shl_or z _ (by omega) (by omega)]
    congr 1
theorem p3_end (k m : Nat) (s : List UInt8) (x : Int) (n : Nat) (hd le : Int) :
    runes_First.p3 k (m + 1) s x n (n, hd, le) = some ((if le ≤ x ∧ sgn x = true then (x, (n : Int)) else no), ()) := by
  show runes_First.t3 (runes_First.p3 k m) (runes_First.p4 k) s x n (n, hd, le) = _
  simp only [runes_First.t3, iteB_dec]
  rw [if_neg (by omega)]
  simp only [runes_First.p4, runes_First.t4, runes_First.p5, runes_First.t5, runes_First.p6, runes_First.t6, iteB_dec, isSign_eq, bindR_val, iteB_true, notB_eq]
  by_cases h : x < le
  · rw [if_pos h, if_neg (by omega)]; rfl
  · rw [if_neg h]
    cases hs : sgn x with
    | true => rw [if_pos ⟨by omega, rfl⟩]; rfl
    | false => rw [if_neg (by simp)]; rfl
theorem fuel10 : ∃ z, fuel = z + 10 := ⟨4611686018427387894, rfl⟩
theorem first_gen (s : List UInt8) : runes_First.t0 (runes_First.p1 (z + 10)) (s, ()) = some (dec s, ()) := by
  cases s with
  | nil => rfl
  | cons a r =>
    have ha := a.toNat_lt
    simp only [runes_First.t0, iteB_dec]
    rw [if_neg (by simp), withinR_zero (by simp), byteAt0, shapeOf_eq, bindR_val]
    simp only [dec]
    by_cases h1 : a.toNat < 128
    · rw [if_pos h1, if_pos h1]
      simp only [runes_First.p1, runes_First.t1, iteB_dec, runes_First.p2, runes_First.t2]
      rw [if_neg (by decide), if_neg (by simp; omega), withinR_zero (by simp), byteAt0, w64_id (n := (a.toNat : Int)) (by omega) (by omega), w64_id (by omega) (by omega)]
      rw [show ((1 : Int), (0 : Int), (0 : Int)) = (((1 : Nat) : Int), 0, 0) from rfl, show (1 : Int) = ((1 : Nat) : Int) from rfl, p3_end (z + 10) (z + 9)]
      have : sgn ((a.toNat : Int) - 0) = true := by simp [sgn]; omega
      rw [if_pos ⟨by omega, this⟩]; simp
    rw [if_neg h1, if_neg h1]
    by_cases h2 : a.toNat < 192
    · rw [if_pos h2, if_pos h2]; rfl
    rw [if_neg h2, if_neg h2]
    by_cases h3 : a.toNat < 224
    · rw [if_pos h3, if_pos h3]
      simp only [runes_First.p1, runes_First.t1, iteB_dec, runes_First.p2, runes_First.t2]
      rw [if_neg (by decide)]
      cases r with
      | nil => rfl
      | cons d r =>
        rw [if_neg (by simp; omega), withinR_zero (by simp), byteAt0, w64_id (n := (a.toNat : Int)) (by omega) (by omega), w64_id (by omega) (by omega)]
        rw [show ((2 : Int), (192 : Int), (128 : Int)) = (((2 : Nat) : Int), 192, 128) from rfl, show (1 : Int) = ((1 : Nat) : Int) from rfl, p3_step (z + 10) (z + 9) _ _ 1 2 _ _ (by omega) (by omega) (by simp) (by omega) (by omega)]
        simp only [List.getD_cons_succ, List.getD_cons_zero, dec2]
        cases hF : isF d with
        | false => rfl
        | true =>
          rw [if_pos rfl, p3_end (z + 10) (z + 8)]
          have e : 64 * ((a.toNat : Int) - 192) + ((d.toNat % 64 : Nat) : Int) = (n2 a d : Nat) := by simp only [n2]; omega
          have hn : n2 a d < 2048 := by simp only [n2]; omega
          have hs : sgn (n2 a d : Nat) = true := by
            simp only [sgn, Bool.and_eq_true, Bool.or_eq_true, decide_eq_true_eq]; omega
          rw [e, hs]
          by_cases hl : 128 ≤ n2 a d
          · rw [if_pos ⟨by omega, rfl⟩, if_pos (by simp [hl])]; rfl
          · rw [if_neg (fun h => by have := h.1; omega), if_neg (by simp [hl])]
    rw [if_neg h3, if_neg h3]
    by_cases h4 : a.toNat < 240
    · rw [if_pos h4, if_pos h4]
      simp only [runes_First.p1, runes_First.t1, iteB_dec, runes_First.p2, runes_First.t2]
      rw [if_neg (by decide)]
      match r with
      | [] => rfl
      | [d] => rfl
      | d :: e :: r =>
        rw [if_neg (by simp; omega), withinR_zero (by simp), byteAt0, w64_id (n := (a.toNat : Int)) (by omega) (by omega), w64_id (by omega) (by omega)]
        rw [show ((3 : Int), (224 : Int), (2048 : Int)) = (((3 : Nat) : Int), 224, 2048) from rfl, show (1 : Int) = ((1 : Nat) : Int) from rfl, p3_step (z + 10) (z + 9) _ _ 1 3 _ _ (by omega) (by omega) (by simp) (by omega) (by omega)]
        simp only [List.getD_cons_succ, List.getD_cons_zero, dec3]
        cases hF : isF d with
        | false => rfl
        | true =>
          rw [if_pos rfl, p3_step (z + 10) (z + 8) _ _ 2 3 _ _ (by omega) (by omega) (by simp) (by omega) (by omega)]
          simp only [List.getD_cons_succ, List.getD_cons_zero]
          cases hE : isF e with
          | false => rfl
          | true =>
            rw [if_pos rfl, p3_end (z + 10) (z + 7)]
            have e1 : 64 * (64 * ((a.toNat : Int) - 224) + ((d.toNat % 64 : Nat) : Int)) + ((e.toNat % 64 : Nat) : Int) = (n3 a d e : Nat) := by simp only [n3]; omega
            rw [e1]
            by_cases hl : 2048 ≤ n3 a d e <;> cases hs : sgn (n3 a d e : Nat) <;> simp [hl] <;> omega
    rw [if_neg h4, if_neg h4]
    by_cases h5 : a.toNat < 248
    · rw [if_pos h5, if_pos h5]
      simp only [runes_First.p1, runes_First.t1, iteB_dec, runes_First.p2, runes_First.t2]
      rw [if_neg (by decide)]
      match r with
      | [] => rfl
      | [d] => rfl
      | [d, e] => rfl
      | d :: e :: f :: r =>
        rw [if_neg (by simp; omega), withinR_zero (by simp), byteAt0, w64_id (n := (a.toNat : Int)) (by omega) (by omega), w64_id (by omega) (by omega)]
        rw [show ((4 : Int), (240 : Int), (65536 : Int)) = (((4 : Nat) : Int), 240, 65536) from rfl, show (1 : Int) = ((1 : Nat) : Int) from rfl, p3_step (z + 10) (z + 9) _ _ 1 4 _ _ (by omega) (by omega) (by simp) (by omega) (by omega)]
        simp only [List.getD_cons_succ, List.getD_cons_zero, dec4]
        cases hF : isF d with
        | false => rfl
        | true =>
          rw [if_pos rfl, p3_step (z + 10) (z + 8) _ _ 2 4 _ _ (by omega) (by omega) (by simp) (by omega) (by omega)]
          simp only [List.getD_cons_succ, List.getD_cons_zero]
          cases hE : isF e with
          | false => rfl
          | true =>
            rw [if_pos rfl, p3_step (z + 10) (z + 7) _ _ 3 4 _ _ (by omega) (by omega) (by simp) (by omega) (by omega)]
            simp only [List.getD_cons_succ, List.getD_cons_zero]
            cases hG : isF f with
            | false => rfl
            | true =>
              rw [if_pos rfl, p3_end (z + 10) (z + 6)]
              have e1 : 64 * (64 * (64 * ((a.toNat : Int) - 240) + ((d.toNat % 64 : Nat) : Int)) + ((e.toNat % 64 : Nat) : Int)) + ((f.toNat % 64 : Nat) : Int) = (n4 a d e f : Nat) := by simp only [n4]; omega
              rw [e1]
              by_cases hl : 65536 ≤ n4 a d e f <;> cases hs : sgn (n4 a d e f : Nat) <;> simp [hl] <;> omega
    rw [if_neg h5, if_neg h5]; rfl
theorem sgn_nat {n : Int} (h : sgn n = true) : ∃ m : Nat, n = m ∧ m < 1114112 ∧ (m < 55296 ∨ 57343 < m) := by
  simp only [sgn, Bool.and_eq_true, Bool.or_eq_true, decide_eq_true_eq] at h
  exact ⟨n.toNat, by omega, by omega, by omega⟩
theorem w8_nat {n : Nat} (h : n < 256) : w8 (n : Int) = n := w8_id (by omega) (by omega)
theorem rbytes_eq (n : Int) : s_ref01_Bytes (n, ()) = some (if sgn n = true then enc n.toNat else [], ()) := by
  show ref01_Bytes.t0 (n, ()) = _
  simp only [ref01_Bytes.t0, rsign_eq, bindR_val]
  cases hs : sgn n with
  | false => rfl
  | true =>
    obtain ⟨m, rfl, h1, h2⟩ := sgn_nat hs
    simp only [notB_true, iteB_false, iteB_dec, if_true, Int.toNat_natCast, enc]
    have a1 : w64 (Int.tdiv (m : Int) 64) = ((m / 64 : Nat) : Int) := w64_nat (n := m / 64) (by omega)
    have a2 : w64 (Int.tdiv (m : Int) 4096) = ((m / 4096 : Nat) : Int) := w64_nat (n := m / 4096) (by omega)
    have a3 : w64 (Int.tdiv (m : Int) 262144) = ((m / 262144 : Nat) : Int) := w64_nat (n := m / 262144) (by omega)
    have b1 : ∀ x : Nat, Int.tmod (x : Int) 64 = ((x % 64 : Nat) : Int) := fun x => rfl
    have c : ∀ (x y : Nat), x + y < 256 → w8 (w64 ((x : Int) + (y : Int))) = ((x + y : Nat) : Int) := fun x y h => by
      rw [w64_id (by omega) (by omega), w8_id (by omega) (by omega)]; omega
    have c192 := fun y => c 192 y
    have c128 := fun y => c 128 y
    have c224 := fun y => c 224 y
    have c240 := fun y => c 240 y
    simp only [Int.cast_ofNat_Int] at c192 c128 c224 c240
    by_cases d1 : m < 128
    · rw [if_pos (by omega), if_pos d1, w8_nat (by omega)]; rfl
    rw [if_neg (by omega), if_neg d1]
    by_cases d2 : m < 2048
    · rw [if_pos (by omega), if_pos d2, a1, b1, c192 _ (by omega), c128 _ (by omega)]; rfl
    rw [if_neg (by omega), if_neg d2]
    by_cases d3 : m < 65536
    · rw [if_pos (by omega), if_pos d3, a1, a2, b1, b1, c224 _ (by omega), c128 _ (by omega), c128 _ (by omega)]; rfl
    rw [if_neg (by omega), if_neg d3, a1, a2, a3, b1, b1, b1, c240 _ (by omega), c128 _ (by omega), c128 _ (by omega), c128 _ (by omega)]
    rfl
theorem toNat_ofNat (n : Nat) (h : n < 256) : (UInt8.ofNat n).toNat = n := by
  rw [UInt8.toNat_ofNat']; omega
theorem isF_ofNat (n : Nat) (h : n < 64) : isF (UInt8.ofNat (128 + n)) = true := by
  unfold isF; rw [toNat_ofNat _ (by omega)]; simp; omega
theorem sgn_of (m : Nat) (h1 : m < 1114112) (h2 : m < 55296 ∨ 57343 < m) : sgn m = true := by
  simp only [sgn, Bool.and_eq_true, Bool.or_eq_true, decide_eq_true_eq]; omega
theorem dec_enc (m : Nat) (h1 : m < 1114112) (h2 : m < 55296 ∨ 57343 < m) (s : List UInt8) : dec (enc m ++ s) = ((m : Int), ((enc m).length : Int)) := by
  unfold enc
  by_cases d1 : m < 128
  · rw [if_pos d1]
    simp only [List.cons_append, List.nil_append, dec, toNat_ofNat m (by omega)]
    rw [if_pos d1]; rfl
  rw [if_neg d1]
  by_cases d2 : m < 2048
  · rw [if_pos d2]
    simp only [List.cons_append, List.nil_append, dec, toNat_ofNat (192 + m / 64) (by omega), dec2, isF_ofNat _ (Nat.mod_lt m (by omega : 0 < 64))]
    have e : n2 (UInt8.ofNat (192 + m / 64)) (UInt8.ofNat (128 + m % 64)) = m := by
      unfold n2; rw [toNat_ofNat _ (by omega), toNat_ofNat _ (by omega)]; omega
    rw [if_neg (by omega), if_neg (by omega), if_pos (by omega), e, if_pos (by simp; omega)]; rfl
  rw [if_neg d2]
  by_cases d3 : m < 65536
  · rw [if_pos d3]
    simp only [List.cons_append, List.nil_append, dec, toNat_ofNat (224 + m / 4096) (by omega), dec3, isF_ofNat _ (Nat.mod_lt m (by omega : 0 < 64)), isF_ofNat _ (Nat.mod_lt (m / 64) (by omega : 0 < 64))]
    have e : n3 (UInt8.ofNat (224 + m / 4096)) (UInt8.ofNat (128 + m / 64 % 64)) (UInt8.ofNat (128 + m % 64)) = m := by
      unfold n3; rw [toNat_ofNat _ (by omega), toNat_ofNat _ (by omega), toNat_ofNat _ (by omega)]; omega
    rw [if_neg (by omega), if_neg (by omega), if_neg (by omega), if_pos (by omega), e, if_pos (by simp [sgn_of m h1 h2]; omega)]; rfl
  rw [if_neg d3]
  simp only [List.cons_append, List.nil_append, dec, toNat_ofNat (240 + m / 262144) (by omega), dec4, isF_ofNat _ (Nat.mod_lt m (by omega : 0 < 64)), isF_ofNat _ (Nat.mod_lt (m / 64) (by omega : 0 < 64)), isF_ofNat _ (Nat.mod_lt (m / 4096) (by omega : 0 < 64))]
  have e : n4 (UInt8.ofNat (240 + m / 262144)) (UInt8.ofNat (128 + m / 4096 % 64)) (UInt8.ofNat (128 + m / 64 % 64)) (UInt8.ofNat (128 + m % 64)) = m := by
    unfold n4; rw [toNat_ofNat _ (by omega), toNat_ofNat _ (by omega), toNat_ofNat _ (by omega), toNat_ofNat _ (by omega)]; omega
  rw [if_neg (by omega), if_neg (by omega), if_neg (by omega), if_neg (by omega), if_pos (by omega), e, if_pos (by simp [sgn_of m h1 h2]; omega)]; rfl
theorem ext8 {a b : UInt8} (h : a.toNat = b.toNat) : a = b := UInt8.toNat_inj.1 h
theorem isF_iff {d : UInt8} : isF d = true ↔ 128 ≤ d.toNat ∧ d.toNat ≤ 191 := by unfold isF; simp
theorem dec_spec (s : List UInt8) : (dec s = no) ∨ ∃ (m : Nat) (r : List UInt8), dec s = ((m : Int), ((enc m).length : Int)) ∧ s = enc m ++ r ∧ m < 1114112 ∧ (m < 55296 ∨ 57343 < m) := by
  cases s with
  | nil => exact .inl rfl
  | cons a r =>
    have ha := a.toNat_lt
    simp only [dec]
    by_cases h1 : a.toNat < 128
    · rw [if_pos h1]
      refine .inr ⟨a.toNat, r, ?_, ?_, by omega, by omega⟩
      · simp [enc, h1]
      · simp [enc, h1]
    rw [if_neg h1]
    by_cases h2 : a.toNat < 192
    · rw [if_pos h2]; exact .inl rfl
    rw [if_neg h2]
    by_cases h3 : a.toNat < 224
    · rw [if_pos h3]
      cases r with
      | nil => exact .inl rfl
      | cons d r =>
        simp only [dec2]
        by_cases hc : (isF d && decide (128 ≤ n2 a d)) = true
        · rw [if_pos hc]
          simp only [Bool.and_eq_true, decide_eq_true_eq, isF_iff] at hc
          obtain ⟨hd, hl⟩ := hc
          have hn : n2 a d < 2048 := by unfold n2; omega
          have e : enc (n2 a d) = [a, d] := by
            unfold enc
            rw [if_neg (by omega), if_pos hn]
            have k1 : UInt8.ofNat (192 + n2 a d / 64) = a := ext8 (by rw [toNat_ofNat _ (by omega)]; unfold n2; omega)
            have k2 : UInt8.ofNat (128 + n2 a d % 64) = d := ext8 (by rw [toNat_ofNat _ (by omega)]; unfold n2; omega)
            rw [k1, k2]
          exact .inr ⟨n2 a d, r, by rw [e]; rfl, by rw [e]; rfl, by omega, by omega⟩
        · rw [if_neg hc]; exact .inl rfl
    rw [if_neg h3]
    by_cases h4 : a.toNat < 240
    · rw [if_pos h4]
      match r with
      | [] => exact .inl rfl
      | [d] => exact .inl rfl
      | d :: e :: r =>
        simp only [dec3]
        by_cases hc : (isF d && isF e && decide (2048 ≤ n3 a d e) && sgn (n3 a d e)) = true
        · rw [if_pos hc]
          simp only [Bool.and_eq_true, decide_eq_true_eq, isF_iff] at hc
          obtain ⟨⟨⟨hd, he⟩, hl⟩, hs⟩ := hc
          obtain ⟨m, hm, g1, g2⟩ := sgn_nat hs
          obtain rfl : n3 a d e = m := by omega
          have hn : n3 a d e < 65536 := by unfold n3; omega
          have en : enc (n3 a d e) = [a, d, e] := by
            unfold enc
            rw [if_neg (by omega), if_neg (by omega), if_pos hn]
            have k1 : UInt8.ofNat (224 + n3 a d e / 4096) = a := ext8 (by rw [toNat_ofNat _ (by omega)]; unfold n3; omega)
            have k2 : UInt8.ofNat (128 + n3 a d e / 64 % 64) = d := ext8 (by rw [toNat_ofNat _ (by omega)]; unfold n3; omega)
            have k3 : UInt8.ofNat (128 + n3 a d e % 64) = e := ext8 (by rw [toNat_ofNat _ (by omega)]; unfold n3; omega)
            rw [k1, k2, k3]
          exact .inr ⟨n3 a d e, r, by rw [en]; rfl, by rw [en]; rfl, g1, g2⟩
        · rw [if_neg hc]; exact .inl rfl
    rw [if_neg h4]
    by_cases h5 : a.toNat < 248
    · rw [if_pos h5]
      match r with
      | [] => exact .inl rfl
      | [d] => exact .inl rfl
      | [d, e] => exact .inl rfl
      | d :: e :: f :: r =>
        simp only [dec4]
        by_cases hc : (isF d && isF e && isF f && decide (65536 ≤ n4 a d e f) && sgn (n4 a d e f)) = true
        · rw [if_pos hc]
          simp only [Bool.and_eq_true, decide_eq_true_eq, isF_iff] at hc
          obtain ⟨⟨⟨⟨hd, he⟩, hf⟩, hl⟩, hs⟩ := hc
          obtain ⟨m, hm, g1, g2⟩ := sgn_nat hs
          obtain rfl : n4 a d e f = m := by omega
          have en : enc (n4 a d e f) = [a, d, e, f] := by
            unfold enc
            rw [if_neg (by omega), if_neg (by omega), if_neg (by omega)]
            have k1 : UInt8.ofNat (240 + n4 a d e f / 262144) = a := ext8 (by rw [toNat_ofNat _ (by omega)]; unfold n4; omega)
            have k2 : UInt8.ofNat (128 + n4 a d e f / 4096 % 64) = d := ext8 (by rw [toNat_ofNat _ (by omega)]; unfold n4; omega)
            have k3 : UInt8.ofNat (128 + n4 a d e f / 64 % 64) = e := ext8 (by rw [toNat_ofNat _ (by omega)]; unfold n4; omega)
            have k4 : UInt8.ofNat (128 + n4 a d e f % 64) = f := ext8 (by rw [toNat_ofNat _ (by omega)]; unfold n4; omega)
            rw [k1, k2, k3, k4]
          exact .inr ⟨n4 a d e f, r, by rw [en]; rfl, by rw [en]; rfl, g1, g2⟩
        · rw [if_neg hc]; exact .inl rfl
    rw [if_neg h5]; exact .inl rfl
theorem enc_len (m : Nat) : 1 ≤ (enc m).length ∧ (enc m).length ≤ 4 := by
  unfold enc; split <;> (try split) <;> (try split) <;> simp
def b0 (s : List UInt8) (i : Nat) : Int := ((s.getD i 0).toNat : Int)
theorem b0_range (s : List UInt8) (i : Nat) : 0 ≤ b0 s i ∧ b0 s i < 256 := by
  have := (s.getD i 0).toNat_lt; unfold b0; omega
def cond (s : List UInt8) (k : Nat) (n f : Int) : Prop := 0 ≤ f ∧ sgn n = true ∧ enc n.toNat = s.take k
instance (s : List UInt8) (k : Nat) (n f : Int) : Decidable (cond s k n f) := inferInstanceAs (Decidable (_ ∧ _ ∧ _))
theorem rp6 (k : Nat) (a1 : ref01_First.T1) (s : List UInt8) (x4 : Nat) (x5 x8 : Int) (h : x4 ≤ s.length) (h4 : x4 < 10) :
    ref01_First.p7 k a1 s x4 x5 x8 = if cond s x4 x5 x8 then some ((x5, (x4 : Int)), ()) else a1 s (x4 + 1 : Nat) := by
  have e9 : ref01_First.p10 k a1 s x4 = a1 s (x4 + 1 : Nat) := by
    show a1 s (w64 ((x4 : Int) + 1)) = _
    rw [w64_id (by omega) (by omega)]; rfl
  show ref01_First.t7 (ref01_First.p9 k a1) s x4 x5 x8 = _
  have e8 : ∀ b, ref01_First.p9 k a1 s x4 x5 b = if b = true then some ((x5, (x4 : Int)), ()) else a1 s (x4 + 1 : Nat) := fun b => by
    show iteB b (some ((x5, (x4 : Int)), ())) (ref01_First.p10 k a1 s x4) = _
    rw [e9, iteB_eq]
  simp only [ref01_First.t7, rsign_eq, bindR_val, iteB_dec, rbytes_eq, e8, cond]
  by_cases h0 : 0 ≤ x8
  · rw [if_pos h0]
    by_cases hs : sgn x5 = true
    · rw [iteB_pos hs, mustR_dec (by omega), mustR_dec (by omega)]
      simp only [hs, if_true, Int.toNat_natCast, List.drop_zero, decide_eq_true_eq, true_and, h0]
    · rw [iteB_neg (by simpa using hs)]; simp [hs]
  · rw [if_neg h0]; simp [h0]
theorem rp7_step (k m : Nat) (a1 : ref01_First.T1) (s : List UInt8) (x4 : Nat) (x5 x8 : Int) (i : Nat) (hi : i < x4) (h4 : x4 < 10) (hs : x4 ≤ s.length) (h0 : -1000000000 ≤ x5) (h1 : x5 ≤ 1000000000) :
    ref01_First.p8 k a1 (m + 1) s x4 x5 x8 i = ref01_First.p8 k a1 m s x4 (64 * x5 + b0 s i % 64) x8 (i + 1 : Nat) := by
  have hb := b0_range s i
  show ref01_First.t8 (ref01_First.p8 k a1 m) (ref01_First.p7 k a1) s x4 x5 x8 i = _
  simp only [ref01_First.t8, iteB_dec]
  rw [if_pos (by omega), withinR_nat (by omega)]
  have e : Int.tmod (byteAt s i) 64 = b0 s i % 64 := rfl
  rw [e, w64_id (n := b0 s i % 64) (by omega) (by omega), w64_id (n := 64 * x5) (by omega) (by omega), w64_id (by omega) (by omega), w64_id (by omega) (by omega)]; rfl
theorem rp7_end (k m : Nat) (a1 : ref01_First.T1) (s : List UInt8) (x4 : Nat) (x5 x8 : Int) : ref01_First.p8 k a1 (m + 1) s x4 x5 x8 x4 = ref01_First.p7 k a1 s x4 x5 x8 := by
  show ref01_First.t8 (ref01_First.p8 k a1 m) (ref01_First.p7 k a1) s x4 x5 x8 x4 = _
  simp only [ref01_First.t8, iteB_dec]
  rw [if_neg (by omega)]
theorem rp4 (k : Nat) (a1 : ref01_First.T1) (s : List UInt8) (x4 : Nat) (h4 : x4 < 10) (hs : x4 ≤ s.length) : ∀ (m i : Nat) (x5 : Int), x4 < m + i → i ≤ x4 → ref01_First.p5 k a1 m s x4 x5 i = ref01_First.p6 k a1 s x4
  | 0, i, x5, h, hi => by omega
  | m + 1, i, x5, h, hi => by
    show ref01_First.t5 (ref01_First.p5 k a1 m) (ref01_First.p6 k a1) s x4 x5 i = _
    simp only [ref01_First.t5, iteB_dec]
    by_cases hlt : i < x4
    · rw [if_pos (by omega), withinR_nat (by omega), w64_id (n := (i : Int) + 1) (by omega) (by omega)]
      exact rp4 k a1 s x4 h4 hs m (i + 1) _ (by omega) (by omega)
    · rw [if_neg (by omega)]
def v1 (s : List UInt8) : Int := b0 s 0
def v2 (s : List UInt8) : Int := 64 * (b0 s 0 - 192) + b0 s 1 % 64
def v3 (s : List UInt8) : Int := 64 * (64 * (b0 s 0 - 224) + b0 s 1 % 64) + b0 s 2 % 64
def v4 (s : List UInt8) : Int := 64 * (64 * (64 * (b0 s 0 - 240) + b0 s 1 % 64) + b0 s 2 % 64) + b0 s 3 % 64
theorem rp5_pre (s : List UInt8) : w64 (byteAt s 0) = b0 s 0 := w64_byte s 0
theorem rp5_1 (a1 : ref01_First.T1) (s : List UInt8) (h : 1 ≤ s.length) : ref01_First.p6 (z + 10) a1 s 1 = if cond s 1 (v1 s) (b0 s 0) then some ((v1 s, 1), ()) else a1 s 2 := by
  have hb := b0_range s 0
  show ref01_First.t6 (ref01_First.p7 (z + 10) a1) (ref01_First.p8 (z + 10) a1 (z + 10)) s 1 = _
  simp only [ref01_First.t6, iteB_dec]
  rw [withinR_pos (by omega) (by decide), withinR_zero (by omega), if_pos trivial, withinR_zero (by omega), rp5_pre]
  show ref01_First.p7 (z + 10) a1 s (1 : Nat) (b0 s 0) (w64 (b0 s 0 - 0)) = _
  rw [w64_id (by omega) (by omega)]
  exact (rp6 (z + 10) a1 s 1 (v1 s) (b0 s 0 - 0) h (by omega)).trans (by simp)
theorem rp5_2 (a1 : ref01_First.T1) (s : List UInt8) (h : 2 ≤ s.length) : ref01_First.p6 (z + 10) a1 s 2 = if cond s 2 (v2 s) (b0 s 0 - 192) then some ((v2 s, 2), ()) else a1 s 3 := by
  have hb := b0_range s 0
  have hb1 := b0_range s 1
  show ref01_First.t6 (ref01_First.p7 (z + 10) a1) (ref01_First.p8 (z + 10) a1 (z + 10)) s 2 = _
  simp only [ref01_First.t6, iteB_dec]
  rw [withinR_pos (by omega) (by decide), withinR_zero (by omega), if_neg (by omega), rp5_pre]
  show ref01_First.p8 (z + 10) a1 (z + 10) s (2 : Nat) (w64 (b0 s 0 - 192)) (w64 (b0 s 0 - 192)) (1 : Nat) = _
  rw [w64_id (by omega) (by omega), rp7_step (z + 10) (z + 9) a1 s 2 _ _ 1 (by omega) (by omega) h (by omega) (by omega), rp7_end (z + 10) (z + 8)]
  exact rp6 (z + 10) a1 s 2 (v2 s) (b0 s 0 - 192) h (by omega)
theorem rp5_3 (a1 : ref01_First.T1) (s : List UInt8) (h : 3 ≤ s.length) : ref01_First.p6 (z + 10) a1 s 3 = if cond s 3 (v3 s) (b0 s 0 - 224) then some ((v3 s, 3), ()) else a1 s 4 := by
  have hb := b0_range s 0
  have hb1 := b0_range s 1
  have hb2 := b0_range s 2
  show ref01_First.t6 (ref01_First.p7 (z + 10) a1) (ref01_First.p8 (z + 10) a1 (z + 10)) s 3 = _
  simp only [ref01_First.t6, iteB_dec]
  rw [withinR_pos (by omega) (by decide), withinR_zero (by omega), if_neg (by omega), rp5_pre]
  show ref01_First.p8 (z + 10) a1 (z + 10) s (3 : Nat) (w64 (b0 s 0 - 224)) (w64 (b0 s 0 - 224)) (1 : Nat) = _
  rw [w64_id (by omega) (by omega), rp7_step (z + 10) (z + 9) a1 s 3 _ _ 1 (by omega) (by omega) h (by omega) (by omega), rp7_step (z + 10) (z + 8) a1 s 3 _ _ 2 (by omega) (by omega) h (by omega) (by omega), rp7_end (z + 10) (z + 7)]
  exact rp6 (z + 10) a1 s 3 (v3 s) (b0 s 0 - 224) h (by omega)
theorem rp5_4 (a1 : ref01_First.T1) (s : List UInt8) (h : 4 ≤ s.length) : ref01_First.p6 (z + 10) a1 s 4 = if cond s 4 (v4 s) (b0 s 0 - 240) then some ((v4 s, 4), ()) else a1 s 5 := by
  have hb := b0_range s 0
  have hb1 := b0_range s 1
  have hb2 := b0_range s 2
  have hb3 := b0_range s 3
  show ref01_First.t6 (ref01_First.p7 (z + 10) a1) (ref01_First.p8 (z + 10) a1 (z + 10)) s 4 = _
  simp only [ref01_First.t6, iteB_dec]
  rw [withinR_pos (by omega) (by decide), withinR_zero (by omega), if_neg (by omega), rp5_pre]
  show ref01_First.p8 (z + 10) a1 (z + 10) s (4 : Nat) (w64 (b0 s 0 - 240)) (w64 (b0 s 0 - 240)) (1 : Nat) = _
  rw [w64_id (by omega) (by omega), rp7_step (z + 10) (z + 9) a1 s 4 _ _ 1 (by omega) (by omega) h (by omega) (by omega), rp7_step (z + 10) (z + 8) a1 s 4 _ _ 2 (by omega) (by omega) h (by omega) (by omega), rp7_step (z + 10) (z + 7) a1 s 4 _ _ 3 (by omega) (by omega) h (by omega) (by omega), rp7_end (z + 10) (z + 6)]
  exact rp6 (z + 10) a1 s 4 (v4 s) (b0 s 0 - 240) h (by omega)
theorem rp1 (m : Nat) (s : List UInt8) (x4 : Nat) (h : 1 ≤ x4) : ref01_First.p1 (z + 10) (m + 1) s x4 = if x4 ≤ 4 ∧ x4 ≤ s.length then ref01_First.p6 (z + 10) (ref01_First.p1 (z + 10) m) s x4 else some (no, ()) := by
  have e2 : ∀ b, ref01_First.p2 (z + 10) (ref01_First.p1 (z + 10) m) s x4 b = iteB b (ref01_First.p5 (z + 10) (ref01_First.p1 (z + 10) m) (z + 10) s x4 0 0) (some (no, ())) := fun b => rfl
  have e1 : ref01_First.p1 (z + 10) (m + 1) s x4 = iteB (decide ((x4 : Int) ≤ 4)) (ref01_First.p2 (z + 10) (ref01_First.p1 (z + 10) m) s x4 (decide ((x4 : Int) ≤ ((s.length : Nat) : Int)))) (ref01_First.p2 (z + 10) (ref01_First.p1 (z + 10) m) s x4 false) := rfl
  rw [e1, e2, e2, iteB_false, iteB_dec, iteB_dec]
  by_cases h4 : x4 ≤ 4
  · rw [if_pos (by omega)]
    by_cases hs : x4 ≤ s.length
    · rw [if_pos (by omega), if_pos ⟨h4, hs⟩]
      exact rp4 (z + 10) (ref01_First.p1 (z + 10) m) s x4 (by omega) hs (z + 10) 0 0 (by omega) (by omega)
    · rw [if_neg (by omega), if_neg (by omega)]
  · rw [if_neg (by omega), if_neg (by omega)]
theorem cond_dec {s : List UInt8} {k : Nat} {n f : Int} (hk : k ≤ s.length) (h : cond s k n f) : dec s = (n, (k : Int)) := by
  obtain ⟨_, hs, he⟩ := h
  obtain ⟨m, rfl, h1, h2⟩ := sgn_nat hs
  rw [Int.toNat_natCast] at he
  have hl : (enc m).length = k := by rw [he, List.length_take]; omega
  have hsplit : s = enc m ++ s.drop k := by rw [he]; exact (List.take_append_drop k s).symm
  rw [hsplit, dec_enc m h1 h2, hl]
theorem b00 (a : UInt8) (l : List UInt8) : b0 (a :: l) 0 = (a.toNat : Int) := rfl
theorem b01 (a b : UInt8) (l : List UInt8) : b0 (a :: b :: l) 1 = (b.toNat : Int) := rfl
theorem b02 (a b c : UInt8) (l : List UInt8) : b0 (a :: b :: c :: l) 2 = (c.toNat : Int) := rfl
theorem b03 (a b c d : UInt8) (l : List UInt8) : b0 (a :: b :: c :: d :: l) 3 = (d.toNat : Int) := rfl
theorem rfirst_gen (s : List UInt8) : ref01_First.p1 (z + 10) (z + 10) s (1 : Nat) = some (dec s, ()) := by
  have hnot : ∀ {k : Nat} {n f : Int}, k ≤ s.length → 1 ≤ k → dec s = no → ¬ cond s k n f := fun hk h1 hd hc => by
    rw [cond_dec hk hc] at hd
    have := congrArg Prod.snd hd
    simp only [no] at this; omega
  rcases dec_spec s with hd | ⟨m, r, hd, hs, h1, h2⟩
  · rw [hd, rp1 (z + 9) s 1 (by omega)]
    by_cases c1 : 1 ≤ s.length
    · rw [if_pos ⟨by omega, c1⟩]
      rw [show ((1 : Nat) : Int) = 1 from rfl, rp5_1 _ s c1, if_neg (hnot c1 (by omega) hd)]
      rw [show (2 : Int) = ((2 : Nat) : Int) from rfl, rp1 (z + 8) s 2 (by omega)]
      by_cases c2 : 2 ≤ s.length
      · rw [if_pos ⟨by omega, c2⟩, show ((2 : Nat) : Int) = 2 from rfl, rp5_2 _ s c2, if_neg (hnot c2 (by omega) hd)]
        rw [show (3 : Int) = ((3 : Nat) : Int) from rfl, rp1 (z + 7) s 3 (by omega)]
        by_cases c3 : 3 ≤ s.length
        · rw [if_pos ⟨by omega, c3⟩, show ((3 : Nat) : Int) = 3 from rfl, rp5_3 _ s c3, if_neg (hnot c3 (by omega) hd)]
          rw [show (4 : Int) = ((4 : Nat) : Int) from rfl, rp1 (z + 6) s 4 (by omega)]
          by_cases c4 : 4 ≤ s.length
          · rw [if_pos ⟨by omega, c4⟩, show ((4 : Nat) : Int) = 4 from rfl, rp5_4 _ s c4, if_neg (hnot c4 (by omega) hd)]
            rw [show (5 : Int) = ((5 : Nat) : Int) from rfl, rp1 (z + 5) s 5 (by omega), if_neg (by omega)]
          · rw [if_neg (by omega)]
        · rw [if_neg (by omega)]
      · rw [if_neg (by omega)]
    · rw [if_neg (by omega)]
  · have hk := enc_len m
    have hlen : (enc m).length ≤ s.length := by rw [hs, List.length_append]; omega
    have hother : ∀ {k : Nat} {n f : Int}, k ≤ s.length → k ≠ (enc m).length → ¬ cond s k n f := fun hk hne hc => by
      rw [cond_dec hk hc] at hd
      have := congrArg Prod.snd hd
      simp only at this; omega
    have htake : s.take (enc m).length = enc m := by rw [hs]; simp
    have hsg := sgn_of m h1 h2
    rw [hd, rp1 (z + 9) s 1 (by omega), if_pos ⟨by omega, by omega⟩, show ((1 : Nat) : Int) = 1 from rfl, rp5_1 _ s (by omega)]
    by_cases d1 : m < 128
    · have e : enc m = [UInt8.ofNat m] := by simp [enc, d1]
      have ev : v1 s = m := by rw [hs, e]; show b0 (UInt8.ofNat m :: r) 0 = _; rw [b00, toNat_ofNat _ (by omega)]
      rw [e] at htake ⊢
      rw [ev, if_pos ⟨(b0_range s 0).1, hsg, by rw [Int.toNat_natCast, e]; exact htake.symm⟩]; rfl
    have el1 : (enc m).length ≠ 1 := by unfold enc; rw [if_neg d1]; split <;> (try split) <;> simp
    rw [if_neg (hother (by omega) (by omega)), show (2 : Int) = ((2 : Nat) : Int) from rfl, rp1 (z + 8) s 2 (by omega), if_pos ⟨by omega, by omega⟩, show ((2 : Nat) : Int) = 2 from rfl, rp5_2 _ s (by omega)]
    by_cases d2 : m < 2048
    · have e : enc m = [UInt8.ofNat (192 + m / 64), UInt8.ofNat (128 + m % 64)] := by simp [enc, d1, d2]
      have e0 : b0 s 0 = (192 + m / 64 : Nat) := by rw [hs, e]; show b0 (_ :: _) 0 = _; rw [b00, toNat_ofNat _ (by omega)]
      have e1 : b0 s 1 = (128 + m % 64 : Nat) := by rw [hs, e]; show b0 (_ :: _ :: r) 1 = _; rw [b01, toNat_ofNat _ (by omega)]
      have ev : v2 s = m := by unfold v2; rw [e0, e1]; omega
      rw [e] at htake ⊢
      rw [ev, if_pos ⟨by rw [e0]; omega, hsg, by rw [Int.toNat_natCast, e]; exact htake.symm⟩]; rfl
    have el2 : (enc m).length ≠ 2 := by unfold enc; rw [if_neg d1, if_neg d2]; split <;> simp
    rw [if_neg (hother (by omega) (by omega)), show (3 : Int) = ((3 : Nat) : Int) from rfl, rp1 (z + 7) s 3 (by omega), if_pos ⟨by omega, by omega⟩, show ((3 : Nat) : Int) = 3 from rfl, rp5_3 _ s (by omega)]
    by_cases d3 : m < 65536
    · have e : enc m = [UInt8.ofNat (224 + m / 4096), UInt8.ofNat (128 + m / 64 % 64), UInt8.ofNat (128 + m % 64)] := by simp [enc, d1, d2, d3]
      have e0 : b0 s 0 = (224 + m / 4096 : Nat) := by rw [hs, e]; show b0 (_ :: _) 0 = _; rw [b00, toNat_ofNat _ (by omega)]
      have e1 : b0 s 1 = (128 + m / 64 % 64 : Nat) := by rw [hs, e]; show b0 (_ :: _ :: _) 1 = _; rw [b01, toNat_ofNat _ (by omega)]
      have e2 : b0 s 2 = (128 + m % 64 : Nat) := by rw [hs, e]; show b0 (_ :: _ :: _ :: r) 2 = _; rw [b02, toNat_ofNat _ (by omega)]
      have ev : v3 s = m := by unfold v3; rw [e0, e1, e2]; omega
      rw [e] at htake ⊢
      rw [ev, if_pos ⟨by rw [e0]; omega, hsg, by rw [Int.toNat_natCast, e]; exact htake.symm⟩]; rfl
    have el3 : (enc m).length ≠ 3 := by unfold enc; rw [if_neg d1, if_neg d2, if_neg d3]; simp
    rw [if_neg (hother (by omega) (by omega)), show (4 : Int) = ((4 : Nat) : Int) from rfl, rp1 (z + 6) s 4 (by omega), if_pos ⟨by omega, by omega⟩, show ((4 : Nat) : Int) = 4 from rfl, rp5_4 _ s (by omega)]
    have e : enc m = [UInt8.ofNat (240 + m / 262144), UInt8.ofNat (128 + m / 4096 % 64), UInt8.ofNat (128 + m / 64 % 64), UInt8.ofNat (128 + m % 64)] := by simp [enc, d1, d2, d3]
    have e0 : b0 s 0 = (240 + m / 262144 : Nat) := by rw [hs, e]; show b0 (_ :: _) 0 = _; rw [b00, toNat_ofNat _ (by omega)]
    have e1 : b0 s 1 = (128 + m / 4096 % 64 : Nat) := by rw [hs, e]; show b0 (_ :: _ :: _) 1 = _; rw [b01, toNat_ofNat _ (by omega)]
    have e2 : b0 s 2 = (128 + m / 64 % 64 : Nat) := by rw [hs, e]; show b0 (_ :: _ :: _ :: _) 2 = _; rw [b02, toNat_ofNat _ (by omega)]
    have e3 : b0 s 3 = (128 + m % 64 : Nat) := by rw [hs, e]; show b0 (_ :: _ :: _ :: _ :: r) 3 = _; rw [b03, toNat_ofNat _ (by omega)]
    have ev : v4 s = m := by unfold v4; rw [e0, e1, e2, e3]; omega
    rw [e] at htake ⊢
    rw [ev, if_pos ⟨by rw [e0]; omega, hsg, by rw [Int.toNat_natCast, e]; exact htake.symm⟩]; rfl
theorem first_eq (s : List UInt8) : s_runes_First (s, ()) = some (dec s, ()) := by
  obtain ⟨z, hz⟩ := fuel10
  have e : s_runes_First (s, ()) = runes_First.t0 (runes_First.p1 fuel) (s, ()) := rfl
  rw [e, hz]; exact first_gen s
theorem rfirst_eq (s : List UInt8) : s_ref01_First (s, ()) = some (dec s, ()) := by
  obtain ⟨z, hz⟩ := fuel10
  have e : s_ref01_First (s, ()) = ref01_First.p1 fuel fuel s (1 : Nat) := rfl
  rw [e, hz]; exact rfirst_gen s
def wh : Nat → List UInt8 → Bool
  | 0, _ => false
  | _ + 1, [] => true
  | n + 1, s => if (dec s).2 = 0 then false else wh n (s.drop (dec s).2.toNat)
theorem dec_len (s : List UInt8) : (dec s).2 = 0 ∨ ∃ k : Nat, (dec s).2 = k ∧ 1 ≤ k ∧ k ≤ s.length := by
  rcases dec_spec s with h | ⟨m, r, h, hs, _, _⟩
  · left; rw [h]; rfl
  · right
    have := enc_len m
    refine ⟨(enc m).length, by rw [h], this.1, by rw [hs, List.length_append]; omega⟩
theorem rnext_eq (s : List UInt8) : s_runes_reader_next (s, ()) = some (decide (0 < (dec s).2), (s.drop (dec s).2.toNat, ())) := by
  show runes_reader_next.t0 (s, ()) = _
  simp only [runes_reader_next.t0, first_eq, bindR_val]
  rcases dec_len s with h | ⟨k, h, h1, h2⟩
  · rw [h, mustR_dec (by omega), mustR_dec (by omega)]; simp
  · rw [h, mustR_dec (by omega), mustR_dec (by omega)]; simp
theorem whole_p1 (k : Nat) : ∀ (m : Nat) (s : List UInt8), s.length < m → runes_Whole.p1 k m s = some (wh m s, ())
  | 0, s, h => by omega
  | m + 1, s, h => by
    show runes_Whole.t1 (runes_Whole.p1 k m) (runes_Whole.p2 k) s = _
    simp only [runes_Whole.t1, iteB_eq, rnext_eq, bindR_val]
    cases s with
    | nil => rfl
    | cons a r =>
      rw [if_pos (by simp)]
      simp only [wh]
      rcases dec_len (a :: r) with hd | ⟨j, hd, h1, h2⟩
      · rw [hd]; rfl
      · rw [hd, if_neg (by simp [notB_eq]; omega), if_neg (by omega)]
        refine whole_p1 k m _ ?_
        rw [List.length_drop]; simp only [List.length_cons, Int.toNat_natCast] at h h2 ⊢; omega
theorem whole_eq (s : List UInt8) (h : s.length < 100000000000) : s_runes_Whole (s, ()) = some (wh fuel s, ()) := whole_p1 fuel fuel s (fuel_gt _ (by omega))
theorem rwhole_p1 (k : Nat) : ∀ (m : Nat) (s : List UInt8), s.length < m → ref01_Whole.p1 k m s = some (wh m s, ())
  | 0, s, h => by omega
  | m + 1, s, h => by
    show ref01_Whole.t1 (ref01_Whole.p1 k m) (ref01_Whole.p2 k) s = _
    simp only [ref01_Whole.t1, iteB_dec, rfirst_eq, bindR_val]
    cases s with
    | nil => rfl
    | cons a r =>
      rw [if_pos (by simp only [List.length_cons]; omega)]
      simp only [wh]
      rcases dec_len (a :: r) with hd | ⟨j, hd, h1, h2⟩
      · rw [hd]; rfl
      · rw [hd, if_neg (by omega), if_neg (by omega), mustR_dec (by omega), mustR_dec (by omega), List.take_length]
        refine rwhole_p1 k m _ ?_
        rw [List.length_drop]; simp only [List.length_cons, Int.toNat_natCast] at h h2 ⊢; omega
theorem rwhole_eq (s : List UInt8) (h : s.length < 100000000000) : s_ref01_Whole (s, ()) = some (wh fuel s, ()) := rwhole_p1 fuel fuel s (fuel_gt _ (by omega))
end
end Go.Proofs.YtogipciicekmoaaGreatDoor.Vm.Gz
namespace Go.Proofs.YtogipciicekmoaaGreatDoor.Vm.Gz
open Go Go.Proofs.YtogipciicekmoaaGreatDoor.Vm
set_option linter.unusedVariables false
set_option maxRecDepth 100000
theorem w64_succ {i : Nat} (h : i < 4611686018427387904) : w64 ((i : Int) + 1) = ((i + 1 : Nat) : Int) := by
  rw [w64_id (by omega) (by omega)]; omega
theorem loopUp {σ α : Type} {N : Nat} (F : Nat → σ → Int → Option α) (E : σ → Option α) (Inv : Nat → σ → Prop) (hN : N < 4611686018427387903)
    (hstep : ∀ n (i : Nat) s, i < N → Inv i s → ∃ s', Inv (i + 1) s' ∧ F (n + 1) s (i : Int) = F n s' (w64 ((i : Int) + 1)))
    (hend : ∀ n s, Inv N s → F (n + 1) s (N : Int) = E s) : ∀ (d n i : Nat) s, i + d = N → d < n → Inv i s → ∃ s', Inv N s' ∧ F n s (i : Int) = E s'
  | 0, n + 1, i, s, hi, _, h => by
    have : i = N := by omega
    subst this
    exact ⟨s, h, hend n s h⟩
  | d + 1, n + 1, i, s, hi, hn, h => by
    obtain ⟨s1, h1, h2⟩ := hstep n i s (by omega) h
    obtain ⟨s2, h3, h4⟩ := loopUp F E Inv hN hstep hend d n (i + 1) s1 (by omega) (by omega) h1
    exact ⟨s2, h3, by rw [h2, w64_succ (by omega)]; exact h4⟩
  | _, 0, _, _, _, hn, _ => by omega
theorem loopAll {σ α : Type} {N : Nat} (F : Nat → σ → Int → Option α) (E : σ → Option α) (Inv : Nat → σ → Prop) (s : σ) (i : Nat) (hi : i ≤ N) (h0 : Inv i s) (hN : N < 4611686018427387903)
    (hstep : ∀ n (i : Nat) s, i < N → Inv i s → ∃ s', Inv (i + 1) s' ∧ F (n + 1) s (i : Int) = F n s' (w64 ((i : Int) + 1)))
    (hend : ∀ n s, Inv N s → F (n + 1) s (N : Int) = E s) : ∃ s', Inv N s' ∧ F fuel s (i : Int) = E s' :=
  loopUp F E Inv hN hstep hend (N - i) fuel i s (by omega) (show N - i < 4611686018427387904 by omega) h0
theorem lt_dec {a b : Nat} (h : a < b) : decide ((a : Int) < (b : Int)) = true := decide_eq_true (by omega)
theorem lt_no {a : Nat} : decide ((a : Int) < (a : Int)) = false := decide_eq_false (by omega)
theorem room_ok {α : Type} {x y : List α} (h : x.length + y.length < 1000000) : room x y = true := decide_eq_true (by omega)
def cutL (c : UInt8) : List UInt8 → List (List UInt8)
  | [] => [[]]
  | x :: l => if x = c then [] :: cutL c l else match cutL c l with
    | [] => []
    | p :: ps => (x :: p) :: ps
theorem cutL_ne (c : UInt8) : ∀ l, cutL c l ≠ []
  | [] => by simp [cutL]
  | x :: l => by
    unfold cutL
    split
    · simp
    · split
      · rename_i h; exact absurd h (cutL_ne c l)
      · simp
theorem cutL_none (c : UInt8) : ∀ l, c ∉ l → cutL c l = [l]
  | [], _ => rfl
  | x :: l, h => by
    have hx : x ≠ c := fun e => h (by simp [e])
    have hl : c ∉ l := fun e => h (by simp [e])
    unfold cutL
    rw [if_neg hx, cutL_none c l hl]
theorem cutL_app (c : UInt8) : ∀ (a b : List UInt8), c ∉ a → cutL c (a ++ c :: b) = a :: cutL c b
  | [], b, _ => by simp [cutL]
  | x :: a, b, h => by
    have hx : x ≠ c := fun e => h (by simp [e])
    have hl : c ∉ a := fun e => h (by simp [e])
    rw [List.cons_append]
    conv => lhs; unfold cutL
    rw [if_neg hx, cutL_app c a b hl]
theorem cutL_at {c : UInt8} {t : List UInt8} {k : Nat} (h : c ∉ t.take k) (hk : t[k]? = some c) : cutL c t = t.take k :: cutL c (t.drop (k + 1)) := by
  have hl : k < t.length := (List.getElem?_eq_some_iff.1 hk).1
  have he : t[k] = c := (List.getElem?_eq_some_iff.1 hk).2
  have : t = t.take k ++ c :: t.drop (k + 1) := by
    rw [← he, ← List.drop_eq_getElem_cons hl, List.take_append_drop]
  conv => lhs; rw [this]
  exact cutL_app c _ _ h
theorem cutL_len (c : UInt8) : ∀ l, (cutL c l).length = l.count c + 1
  | [] => rfl
  | x :: l => by
    have ih := cutL_len c l
    unfold cutL
    by_cases h : x = c
    · rw [if_pos h, List.length_cons, ih, h, List.count_cons_self]
    · rw [if_neg h, List.count_cons_of_ne (by simpa using h), ← ih]
      split
      · rename_i e; exact absurd e (cutL_ne c l)
      · rename_i e; rw [e]; rfl
theorem findB_spec (c : UInt8) : ∀ (l : List UInt8) (i : Nat), (c ∉ l ∧ findB c l (i : Int) = -1) ∨ ∃ k : Nat, c ∉ l.take k ∧ l[k]? = some c ∧ findB c l (i : Int) = ((i + k : Nat) : Int)
  | [], i => .inl ⟨by simp, rfl⟩
  | x :: l, i => by
    unfold findB
    cases h : x == c with
    | true => exact .inr ⟨0, by simp, by simp at h; simp [h], by simp⟩
    | false =>
      have hx : x ≠ c := by simpa using h
      simp only
      rw [show (i : Int) + 1 = ((i + 1 : Nat) : Int) by omega]
      rcases findB_spec c l (i + 1) with ⟨h1, h2⟩ | ⟨k, h1, h2, h3⟩
      · exact .inl ⟨by simp only [List.mem_cons, not_or]; exact ⟨fun e => hx e.symm, h1⟩, h2⟩
      · exact .inr ⟨k + 1, by simp only [List.take_succ_cons, List.mem_cons, not_or]; exact ⟨fun e => hx e.symm, h1⟩, by simpa using h2, by rw [h3]; omega⟩
end Go.Proofs.YtogipciicekmoaaGreatDoor.Vm.Gz
namespace Go.Proofs.YtogipciicekmoaaGreatDoor.Vm.Gz
open Go Go.Proofs.YtogipciicekmoaaGreatDoor.Vm
set_option linter.unusedVariables false
set_option maxRecDepth 100000
theorem byteAt_eq {s : List UInt8} {i : Nat} (h : i < s.length) : byteAt s i = ((s[i]).toNat : Int) := by
  unfold byteAt
  rw [List.getD_eq_getElem?_getD, List.getElem?_eq_getElem h]
  rfl
theorem take_succ_mem {c : UInt8} {t : List UInt8} {k : Nat} (hk : k < t.length) (h : c ∉ t.take k) (hc : t[k] ≠ c) : c ∉ t.take (k + 1) := by
  rw [List.take_add_one, List.getElem?_eq_getElem hk]
  simp only [Option.toList_some, List.mem_append, List.mem_singleton, not_or]
  exact ⟨h, fun e => hc e.symm⟩
theorem rcut_loop (c : UInt8) (s : List UInt8) (hs : s.length < 100000) : ∀ (d n i fr : Nat) (l : List (List UInt8)), i + d = s.length → d + 1 < n → fr ≤ i → l.length ≤ i → l ++ cutL c (s.drop fr) = cutL c s → c ∉ (s.drop fr).take (i - fr) →
    ref10_cut.p1 fuel n s (c.toNat : Int) l (fr : Int) (i : Int) = some (cutL c s, ())
  | d, n + 1, i, fr, l, hi, hn, hf, hl, hcut, hno => by
    have e1 : ref10_cut.p1 fuel (n + 1) s (c.toNat : Int) l (fr : Int) (i : Int) = ref10_cut.t1 (ref10_cut.p2 fuel (ref10_cut.p1 fuel n)) (ref10_cut.p3 fuel) s (c.toNat : Int) l (fr : Int) (i : Int) := rfl
    rw [e1]
    unfold ref10_cut.t1
    rw [iteB_pos (decide_eq_true (by omega))]
    have add : ref10_cut.p2 fuel (ref10_cut.p1 fuel n) s (c.toNat : Int) l (fr : Int) (i : Int) true = ref10_cut.p1 fuel n s (c.toNat : Int) (l ++ [(s.drop fr).take (i - fr)]) ((i + 1 : Nat) : Int) ((i + 1 : Nat) : Int) := by
      show ref10_cut.t2 (ref10_cut.p4 fuel (ref10_cut.p1 fuel n)) s (c.toNat : Int) l (fr : Int) (i : Int) true = _
      unfold ref10_cut.t2
      have hd : List.drop fr (List.take i s) = (s.drop fr).take (i - fr) := by rw [List.drop_take]
      rw [iteB_true, mustR_dec (by omega), mustR_dec (by omega), mustR_dec (by omega), mustR_dec (by simp only [Int.toNat_natCast]; omega)]
      simp only [Int.toNat_natCast, hd]
      rw [mustR_pos (room_ok (by simp; omega)), w64_succ (by omega)]
      show ref10_cut.p1 fuel n s (c.toNat : Int) _ _ (w64 ((i : Int) + 1)) = _
      rw [w64_succ (by omega)]
    by_cases he : i = s.length
    · rw [iteB_pos (decide_eq_true (by omega)), add]
      have hd : d = 0 := by omega
      have hcl : cutL c (s.drop fr) = [(s.drop fr).take (i - fr)] := by
        have : (s.drop fr).take (i - fr) = s.drop fr := List.take_of_length_le (by rw [List.length_drop]; omega)
        rw [this] at hno ⊢
        exact cutL_none c _ hno
      rw [hcl] at hcut
      cases n with
      | zero => omega
      | succ n =>
        have e2 : ref10_cut.p1 fuel (n + 1) s (c.toNat : Int) (l ++ [(s.drop fr).take (i - fr)]) ((i + 1 : Nat) : Int) ((i + 1 : Nat) : Int) = ref10_cut.t1 (ref10_cut.p2 fuel (ref10_cut.p1 fuel n)) (ref10_cut.p3 fuel) s (c.toNat : Int) (l ++ [(s.drop fr).take (i - fr)]) ((i + 1 : Nat) : Int) ((i + 1 : Nat) : Int) := rfl
        rw [e2]
        unfold ref10_cut.t1
        rw [iteB_neg (decide_eq_false (by omega))]
        show some (l ++ [(s.drop fr).take (i - fr)], ()) = _
        rw [hcut]
    · have hlt : i < s.length := by omega
      have hdd : d ≠ 0 := by omega
      obtain ⟨d', rfl⟩ : ∃ d', d = d' + 1 := ⟨d - 1, by omega⟩
      rw [iteB_neg (decide_eq_false (by omega)), withinR_nat hlt, byteAt_eq hlt]
      have hk : i - fr < (s.drop fr).length := by rw [List.length_drop]; omega
      have hge : (s.drop fr)[i - fr] = s[i] := by rw [List.getElem_drop]; congr 1; omega
      by_cases hc : s[i] = c
      · rw [hc, decide_eq_true rfl, add]
        have hat : (s.drop fr)[i - fr]? = some c := by rw [List.getElem?_eq_getElem hk, hge, hc]
        have hcl := cutL_at hno hat
        have hdr : List.drop (i - fr + 1) (s.drop fr) = s.drop (i + 1) := by rw [List.drop_drop]; congr 1; omega
        rw [hdr] at hcl
        rw [hcl] at hcut
        exact rcut_loop c s hs d' n (i + 1) (i + 1) _ (by omega) (by omega) (Nat.le_refl _) (by simp; omega) (by rw [← hcut]; simp) (by simp)
      · have hcn : decide (((s[i]).toNat : Int) = (c.toNat : Int)) = false := decide_eq_false fun e => hc (ext8 (by omega))
        rw [hcn]
        have skip : ref10_cut.p2 fuel (ref10_cut.p1 fuel n) s (c.toNat : Int) l (fr : Int) (i : Int) false = ref10_cut.p1 fuel n s (c.toNat : Int) l (fr : Int) ((i + 1 : Nat) : Int) := by
          show ref10_cut.p1 fuel n s (c.toNat : Int) l (fr : Int) (w64 ((i : Int) + 1)) = _
          rw [w64_succ (by omega)]
        rw [skip]
        refine rcut_loop c s hs d' n (i + 1) fr l (by omega) (by omega) (by omega) (by omega) hcut ?_
        have : i + 1 - fr = i - fr + 1 := by omega
        rw [this]
        exact take_succ_mem hk hno (by rw [hge]; exact hc)
theorem rcut_eq (c : UInt8) (s : List UInt8) (hs : s.length < 100000) : s_ref10_cut (s, ((c.toNat : Int), ())) = some (cutL c s, ()) := by
  have e : s_ref10_cut (s, ((c.toNat : Int), ())) = ref10_cut.p1 fuel fuel s (c.toNat : Int) [] ((0 : Nat) : Int) ((0 : Nat) : Int) := rfl
  rw [e]
  exact rcut_loop c s hs s.length fuel 0 0 [] (by omega) (by have := fuel_gt (s.length + 1) (by omega); omega) (Nat.le_refl _) (Nat.le_refl _) (by simp) (by simp)
theorem getD_at {α : Type} {l : List α} {i : Nat} (d : α) (h : i < l.length) : l.getD i d = l[i] := by
  rw [List.getD_eq_getElem?_getD, List.getElem?_eq_getElem h]; rfl
theorem letB_int (n : Nat) : letB n = (decide ((97 : Int) ≤ (n : Int)) && decide ((n : Int) ≤ 122) || decide ((65 : Int) ≤ (n : Int)) && decide ((n : Int) ≤ 90)) := by
  unfold letB
  rw [decide_eq_decide.2 (show (97 ≤ n) ↔ (97 : Int) ≤ (n : Int) by omega), decide_eq_decide.2 (show (n ≤ 122) ↔ (n : Int) ≤ 122 by omega), decide_eq_decide.2 (show (65 ≤ n) ↔ (65 : Int) ≤ (n : Int) by omega), decide_eq_decide.2 (show (n ≤ 90) ↔ (n : Int) ≤ 90 by omega)]
theorem rname_step (n i : Nat) (s : List UInt8) (hi : i < s.length) (hs : s.length < 100000) : ref10_Name.p1 fuel (n + 1) s (i : Int) = (match nmB (decide (i = 0)) (s[i]).toNat with | true => ref10_Name.p1 fuel n s ((i + 1 : Nat) : Int) | false => some (false, ())) := by
  have e1 : ref10_Name.p1 fuel (n + 1) s (i : Int) = ref10_Name.t1 (ref10_Name.p2 fuel (ref10_Name.p1 fuel n)) (ref10_Name.p3 fuel) s (i : Int) := rfl
  rw [e1]
  unfold ref10_Name.t1
  rw [iteB_pos (lt_dec hi), withinR_nat hi, byteAt_eq hi]
  generalize (s[i]).toNat = m
  have e4 : ∀ b, ref10_Name.p4 fuel (ref10_Name.p1 fuel n) s (i : Int) b = iteB b (some (false, ())) (ref10_Name.p1 fuel n s ((i + 1 : Nat) : Int)) := fun b => by
    show iteB b (some (false, ())) (ref10_Name.p1 fuel n s (w64 ((i : Int) + 1))) = _
    rw [w64_succ (by omega)]
  have e2 : ∀ b, ref10_Name.p2 fuel (ref10_Name.p1 fuel n) s (i : Int) (m : Int) b = iteB (notB b) (iteB (decide ((i : Int) = 0)) (ref10_Name.p4 fuel (ref10_Name.p1 fuel n) s (i : Int) true) (iteB (!decide ((m : Int) = 95)) (iteB (decide ((48 : Int) ≤ (m : Int))) (ref10_Name.p4 fuel (ref10_Name.p1 fuel n) s (i : Int) (notB (decide ((m : Int) ≤ 57)))) (ref10_Name.p4 fuel (ref10_Name.p1 fuel n) s (i : Int) true)) (ref10_Name.p4 fuel (ref10_Name.p1 fuel n) s (i : Int) false))) (ref10_Name.p4 fuel (ref10_Name.p1 fuel n) s (i : Int) false) := fun b => rfl
  have hl := letB_int m
  have e3 : iteB (decide ((97 : Int) ≤ (m : Int))) (iteB (decide ((m : Int) ≤ 122)) (ref10_Name.p2 fuel (ref10_Name.p1 fuel n) s (i : Int) (m : Int) true) (iteB (decide ((65 : Int) ≤ (m : Int))) (ref10_Name.p2 fuel (ref10_Name.p1 fuel n) s (i : Int) (m : Int) (decide ((m : Int) ≤ 90))) (ref10_Name.p2 fuel (ref10_Name.p1 fuel n) s (i : Int) (m : Int) false)))
      (iteB (decide ((65 : Int) ≤ (m : Int))) (ref10_Name.p2 fuel (ref10_Name.p1 fuel n) s (i : Int) (m : Int) (decide ((m : Int) ≤ 90))) (ref10_Name.p2 fuel (ref10_Name.p1 fuel n) s (i : Int) (m : Int) false)) = ref10_Name.p2 fuel (ref10_Name.p1 fuel n) s (i : Int) (m : Int) (letB m) := by
    rw [hl]
    cases decide ((97 : Int) ≤ (m : Int)) <;> cases decide ((m : Int) ≤ 122) <;> cases decide ((65 : Int) ≤ (m : Int)) <;> cases decide ((m : Int) ≤ 90) <;> rfl
  refine e3.trans ?_
  rw [e2]
  simp only [e4]
  have hi0 : decide ((i : Int) = 0) = decide (i = 0) := decide_eq_decide.2 (by omega)
  have h95 : decide ((m : Int) = 95) = decide (m = 95) := decide_eq_decide.2 (by omega)
  have h48 : decide ((48 : Int) ≤ (m : Int)) = decide (48 ≤ m) := decide_eq_decide.2 (by omega)
  have h57 : decide ((m : Int) ≤ 57) = decide (m ≤ 57) := decide_eq_decide.2 (by omega)
  rw [hi0, h95, h48, h57]
  unfold nmB digB
  cases letB m <;> cases decide (i = 0) <;> cases decide (m = 95) <;> cases decide (48 ≤ m) <;> cases decide (m ≤ 57) <;> rfl
theorem rname_loop (s : List UInt8) (hs : s.length < 100000) : ∀ (d n i : Nat), i + d = s.length → d < n → ref10_Name.p1 fuel n s (i : Int) = some (nmAll (decide (i = 0)) (s.drop i) && (!decide (s = []) && decide (s.length ≤ 16)), ())
  | 0, n + 1, i, hi, _ => by
    have : i = s.length := by omega
    subst this
    have e1 : ref10_Name.p1 fuel (n + 1) s (s.length : Int) = ref10_Name.t1 (ref10_Name.p2 fuel (ref10_Name.p1 fuel n)) (ref10_Name.p3 fuel) s (s.length : Int) := rfl
    rw [e1]
    unfold ref10_Name.t1
    rw [iteB_neg lt_no]
    show ref10_Name.t3 s = _
    unfold ref10_Name.t3
    rw [List.drop_length]
    cases s with
    | nil => rfl
    | cons x s =>
      rw [iteB_pos (decide_eq_true (by simp only [List.length_cons]; omega))]
      have h1 : decide (x :: s = []) = false := by simp
      have h2 : decide ((((x :: s).length : Nat) : Int) < 17) = decide ((x :: s).length ≤ 16) := decide_eq_decide.2 (by omega)
      rw [h1, h2]
      rfl
  | d + 1, n + 1, i, hi, hn => by
    have hlt : i < s.length := by omega
    rw [rname_step n i s hlt hs, nmAll_drop s i s[i] (List.getElem?_eq_getElem hlt)]
    cases nmB (decide (i = 0)) (s[i]).toNat with
    | true =>
      simp only [Bool.true_and]
      exact rname_loop s hs d n (i + 1) (by omega) (by omega)
    | false => rfl
  | _, 0, _, _, hn => by omega
theorem rname_eq (s : List UInt8) (hs : s.length < 100000) : s_ref10_Name (s, ()) = some (nameB s, ()) := by
  have e : s_ref10_Name (s, ()) = ref10_Name.p1 fuel fuel s ((0 : Nat) : Int) := rfl
  rw [e, rname_loop s hs s.length fuel 0 (by omega) (by have := fuel_gt s.length (by omega); omega)]
  unfold nameB
  rw [Bool.and_assoc]
  rfl
end Go.Proofs.YtogipciicekmoaaGreatDoor.Vm.Gz
namespace Go.Proofs.YtogipciicekmoaaGreatDoor.Vm.Gz
open Go Go.Proofs.YtogipciicekmoaaGreatDoor.Vm
set_option linter.unusedVariables false
set_option maxRecDepth 100000
theorem idx_gen {β : Type} (l : List β) (d0 : β) (g : β → Option (Bool × Unit)) (P : β → Bool) (hg : ∀ x ∈ l, g x = some (P x, ())) (F : Nat → Int → Option (Int × Unit))
    (hF : ∀ n (i : Nat), i < l.length → F (n + 1) (i : Int) = bindR (g (l.getD i d0)) fun r => iteB r.1 (some ((i : Int), ())) (F n (w64 ((i : Int) + 1)))) (hE : ∀ n, F (n + 1) (l.length : Int) = some (-1, ())) (hl : l.length < 1000000) :
    ∃ r : Int, F fuel ((0 : Nat) : Int) = some (r, ()) ∧ decide (0 ≤ r) = l.any P := by
  have loop : ∀ (d n i : Nat), i + d = l.length → d < n → ∃ r : Int, F n (i : Int) = some (r, ()) ∧ decide (0 ≤ r) = (l.drop i).any P := by
    intro d
    induction d with
    | zero =>
      intro n i hi hn
      cases n with
      | zero => omega
      | succ n =>
        have : i = l.length := by omega
        subst this
        exact ⟨-1, hE n, by simp⟩
    | succ d ih =>
      intro n i hi hn
      cases n with
      | zero => omega
      | succ n =>
        have hlt : i < l.length := by omega
        have hm : l[i] ∈ l := List.getElem_mem hlt
        rw [hF n i hlt, getD_at d0 hlt, hg _ hm, bindR_val, List.drop_eq_getElem_cons hlt, List.any_cons]
        cases P l[i] with
        | true => exact ⟨i, rfl, by simp⟩
        | false =>
          rw [iteB_false, w64_succ (by omega)]
          obtain ⟨r, h1, h2⟩ := ih n (i + 1) (by omega) (by omega)
          exact ⟨r, h1, by simpa using h2⟩
  have := loop l.length fuel 0 (by omega) (by have := fuel_gt l.length (by omega); omega)
  simpa using this
theorem isName_eq (s : List UInt8) : s_IsName (s, ()) = some (nameB s, ()) := rfl
theorem areNames_eq (l : List (List UInt8)) (hl : l.length < 1000000) : s_gram_areNames (l, ()) = some (l.all nameB, ()) := by
  have e : s_gram_areNames (l, ()) = bindR (bindR (slices_IndexFuncxxx.p1 fuel fuel l () ((l.length : Nat) : Int) ((0 : Nat) : Int)) fun r1 => some (decide ((0 : Int) ≤ r1.1), ())) fun r1 => some (notB r1.1, ()) := rfl
  obtain ⟨r, h1, h2⟩ := idx_gen l [] (fun x => s_gram_areNames_1 (x, ())) (fun x => !nameB x) (fun x _ => rfl) (fun n i => slices_IndexFuncxxx.p1 fuel n l () ((l.length : Nat) : Int) i)
    (fun n i hi => by
      have e1 : slices_IndexFuncxxx.p1 fuel (n + 1) l () ((l.length : Nat) : Int) (i : Int) = slices_IndexFuncxxx.t1 (slices_IndexFuncxxx.p1 fuel n) (slices_IndexFuncxxx.p2 fuel) l () ((l.length : Nat) : Int) (i : Int) := rfl
      unfold slices_IndexFuncxxx.t1 at e1
      rw [iteB_pos (lt_dec hi), withinR_nat hi] at e1
      exact e1)
    (fun n => by
      have e1 : slices_IndexFuncxxx.p1 fuel (n + 1) l () ((l.length : Nat) : Int) (l.length : Int) = slices_IndexFuncxxx.t1 (slices_IndexFuncxxx.p1 fuel n) (slices_IndexFuncxxx.p2 fuel) l () ((l.length : Nat) : Int) (l.length : Int) := rfl
      unfold slices_IndexFuncxxx.t1 at e1
      rw [iteB_neg lt_no] at e1
      exact e1) hl
  rw [e, h1, bindR_val, bindR_val]
  simp only [h2, notB_eq]
  congr 2
  rw [List.all_eq_not_any_not]
theorem rnames_eq (l : List (List UInt8)) (hl : l.length < 1000000) (hs : ∀ p ∈ l, p.length < 100000) : s_ref10_names (l, ()) = some (l.all nameB, ()) := by
  have e : s_ref10_names (l, ()) = ref10_names.p1 fuel fuel l ((0 : Nat) : Int) := rfl
  have loop : ∀ (d n i : Nat), i + d = l.length → d < n → ref10_names.p1 fuel n l (i : Int) = some ((l.drop i).all nameB, ()) := by
    intro d
    induction d with
    | zero =>
      intro n i hi hn
      cases n with
      | zero => omega
      | succ n =>
        have : i = l.length := by omega
        subst this
        have e1 : ref10_names.p1 fuel (n + 1) l (l.length : Int) = ref10_names.t1 (ref10_names.p1 fuel n) (ref10_names.p2 fuel) l (l.length : Int) := rfl
        unfold ref10_names.t1 at e1
        rw [e1, iteB_neg lt_no, List.drop_length]
        rfl
    | succ d ih =>
      intro n i hi hn
      cases n with
      | zero => omega
      | succ n =>
        have hlt : i < l.length := by omega
        have e1 : ref10_names.p1 fuel (n + 1) l (i : Int) = ref10_names.t1 (ref10_names.p1 fuel n) (ref10_names.p2 fuel) l (i : Int) := rfl
        unfold ref10_names.t1 at e1
        rw [e1, iteB_pos (lt_dec hlt), withinR_nat hlt, getD_at _ hlt, rname_eq _ (hs _ (List.getElem_mem hlt)), bindR_val, List.drop_eq_getElem_cons hlt, List.all_cons]
        cases nameB l[i] with
        | true => rw [notB_eq, Bool.not_true, iteB_false, w64_succ (by omega), ih n (i + 1) (by omega) (by omega)]; simp
        | false => rfl
  rw [e, loop l.length fuel 0 (by omega) (by have := fuel_gt l.length (by omega); omega), List.drop_zero]
def wR (s : List UInt8) : List UInt8 := s.dropWhile (· != 32)
def nxt (s : List UInt8) : List UInt8 := wR (trimB 32 s)
def u2 (s : List UInt8) : List UInt8 := nxt s
def u4 (s : List UInt8) : List UInt8 := nxt (u2 s)
end Go.Proofs.YtogipciicekmoaaGreatDoor.Vm.Gz
namespace Go.Proofs.YtogipciicekmoaaGreatDoor.Vm.Gz
open Go Go.Proofs.YtogipciicekmoaaGreatDoor.Vm
set_option linter.unusedVariables false
set_option maxRecDepth 100000
end Go.Proofs.YtogipciicekmoaaGreatDoor.Vm.Gz
namespace Go.Proofs.YtogipciicekmoaaGreatDoor.Vm.Gz
open Go Go.Proofs.YtogipciicekmoaaGreatDoor.Vm
set_option linter.unusedVariables false
set_option maxRecDepth 100000
abbrev Gm : Type := D11
abbrev Rs : Type := Int × (Gm × Bool)
def zT : D2 := ([], ([], (false, 0)))
def lastI (T : D3) (nm : List UInt8) : Nat → Option Nat
  | 0 => none
  | n + 1 => if (T.getD n zT).1 = nm then some n else lastI T nm n
def setC (T : D3) (i : Nat) (v : Int) : D3 := T.set i ((T.getD i zT).1, ((T.getD i zT).2.1, ((T.getD i zT).2.2.1, v)))
def wSkip : List UInt8 := [115, 107, 105, 112]
def tokS (l : D4) (line : List UInt8) (g : Gm) (b : Bool) : Rs :=
  if (u4 line).tail = [] then (30, (g, b)) else if nameB (l.getD 1 []) = false then (31, (g, b)) else if g.1.length = 32 then (21, (g, b))
  else (0, ((g.1 ++ [(l.getD 1 [], ((u4 line).tail, (decide (l.getD 0 [] = wSkip), 0)))], g.2), b))
def clsBad (l : D4) : Prop := l.length ≠ 3 ∨ (l.getD 2 []).length ≠ 1 ∨ byteAt (l.getD 2 []) 0 < 49 ∨ 57 < byteAt (l.getD 2 []) 0
instance (l : D4) : Decidable (clsBad l) := inferInstanceAs (Decidable (_ ∨ _))
def clsS (l : D4) (g : Gm) (b : Bool) : Rs :=
  if clsBad l then (30, (g, b)) else match lastI g.1 (l.getD 1 []) g.1.length with
    | none => (31, (g, b))
    | some i => (0, ((setC g.1 i (byteAt (l.getD 2 []) 0 - 48), g.2), b))
def arS (k : Int) (n : Nat) : Bool := decide (k = 1 ∧ (n = 2 ∨ n = 3) ∨ k = 2 ∧ n = 4 ∨ k = 3 ∧ n = 2)
structure Sm (g : Gm) : Prop where
  t : g.1.length ≤ 32
  p : g.2.2.1.length ≤ 64
  n : g.2.2.2.length ≤ 16
end Go.Proofs.YtogipciicekmoaaGreatDoor.Vm.Gz
namespace Go.Proofs.YtogipciicekmoaaGreatDoor.Vm.Gz
open Go Go.Proofs.YtogipciicekmoaaGreatDoor.Vm
set_option linter.unusedVariables false
set_option maxRecDepth 100000
theorem arity_eq (k : Int) (n : Nat) : s_gram_arity (k, (((n : Nat) : Int), ())) = some (arS k n, ()) := by
  have e : s_gram_arity (k, (((n : Nat) : Int), ())) = gram_arity.t0 (k, (((n : Nat) : Int), ())) := rfl
  rw [e]
  unfold gram_arity.t0 arS
  dsimp only
  by_cases h1 : k = 1
  · subst h1
    rw [iteB_pos (decide_eq_true rfl)]
    by_cases h2 : n = 2
    · subst h2; rfl
    · rw [iteB_neg (decide_eq_false (by omega))]
      congr 2
      exact decide_eq_decide.2 (by omega)
  · rw [iteB_neg (decide_eq_false h1)]
    by_cases h2 : k = 2
    · subst h2
      rw [iteB_pos (decide_eq_true rfl)]
      congr 2
      exact decide_eq_decide.2 (by omega)
    · rw [iteB_neg (decide_eq_false h2)]
      by_cases h3 : k = 3
      · subst h3
        rw [iteB_pos (decide_eq_true rfl)]
        congr 2
        exact decide_eq_decide.2 (by omega)
      · rw [iteB_neg (decide_eq_false h3), decide_eq_false (by omega)]
end Go.Proofs.YtogipciicekmoaaGreatDoor.Vm.Gz
namespace Go.Proofs.YtogipciicekmoaaGreatDoor.Vm.Gz
open Go Go.Proofs.YtogipciicekmoaaGreatDoor.Vm
set_option linter.unusedVariables false
set_option maxRecDepth 100000
theorem rarity_eq (k : Int) (hk : 1 ≤ k ∧ k ≤ 3) (n : Nat) : ∃ lo hi : Int, s_ref10_Arity (k, ()) = some ((lo, hi), ()) ∧ arS k n = !(decide ((n : Int) < lo) || decide (hi < (n : Int))) := by
  have : k = 1 ∨ k = 2 ∨ k = 3 := by omega
  rcases this with rfl | rfl | rfl
  · refine ⟨2, 3, rfl, ?_⟩
    unfold arS
    by_cases h1 : (n : Int) < 2
    · rw [decide_eq_true h1, decide_eq_false (by omega)]; rfl
    · by_cases h2 : (3 : Int) < n
      · rw [decide_eq_true h2, decide_eq_false (by omega)]; simp
      · rw [decide_eq_false h1, decide_eq_false h2, decide_eq_true (by omega)]; rfl
  · refine ⟨4, 4, rfl, ?_⟩
    unfold arS
    by_cases h1 : (n : Int) < 4
    · rw [decide_eq_true h1, decide_eq_false (by omega)]; rfl
    · by_cases h2 : (4 : Int) < n
      · rw [decide_eq_true h2, decide_eq_false (by omega)]; simp
      · rw [decide_eq_false h1, decide_eq_false h2, decide_eq_true (by omega)]; rfl
  · refine ⟨2, 2, rfl, ?_⟩
    unfold arS
    by_cases h1 : (n : Int) < 2
    · rw [decide_eq_true h1, decide_eq_false (by omega)]; rfl
    · by_cases h2 : (2 : Int) < n
      · rw [decide_eq_true h2, decide_eq_false (by omega)]; simp
      · rw [decide_eq_false h1, decide_eq_false h2, decide_eq_true (by omega)]; rfl
end Go.Proofs.YtogipciicekmoaaGreatDoor.Vm.Gz
namespace Go.Proofs.YtogipciicekmoaaGreatDoor.Vm.Gz
open Go Go.Proofs.YtogipciicekmoaaGreatDoor.Vm
set_option linter.unusedVariables false
set_option maxRecDepth 100000
def Wh (s : List UInt8) : Bool := wh (s.length + 1) s
theorem wh_any : ∀ (k n : Nat) (s : List UInt8), s.length ≤ k → s.length < n → wh n s = Wh s := by
  intro k
  induction k with
  | zero =>
    intro n s hk hn
    cases s with
    | nil => cases n with
      | zero => omega
      | succ n => rfl
    | cons x s => simp at hk
  | succ k ih =>
    intro n s hk hn
    cases s with
    | nil => cases n with
      | zero => omega
      | succ n => rfl
    | cons x s =>
      cases n with
      | zero => omega
      | succ n =>
        have hd := dec_len (x :: s)
        simp only [List.length_cons] at hk hn
        show (if (dec (x :: s)).2 = 0 then false else wh n ((x :: s).drop (dec (x :: s)).2.toNat)) = (if (dec (x :: s)).2 = 0 then false else wh (x :: s).length ((x :: s).drop (dec (x :: s)).2.toNat))
        rcases hd with h | ⟨j, h, h1, h2⟩
        · rw [if_pos h, if_pos h]
        · rw [if_neg (by omega), if_neg (by omega), h, Int.toNat_natCast]
          have hl : ((x :: s).drop j).length ≤ s.length := by rw [List.length_drop]; simp only [List.length_cons]; omega
          rw [ih n _ (by omega) (by omega), ih (x :: s).length _ (by omega) (by simp only [List.length_cons]; omega)]
end Go.Proofs.YtogipciicekmoaaGreatDoor.Vm.Gz
namespace Go.Proofs.YtogipciicekmoaaGreatDoor.Vm.Gz
open Go Go.Proofs.YtogipciicekmoaaGreatDoor.Vm
set_option linter.unusedVariables false
set_option maxRecDepth 100000
theorem alive_eq : s_law10_alive () = some (true, ()) := by kernel_rfl
structure Ok0 (g : Gm) (b : Bool) : Prop where
  toks : ∀ t ∈ g.1, nameB t.1 = true ∧ t.2.1 ≠ [] ∧ 10 ∉ t.2.1 ∧ Wh t.2.1 = true ∧ t.2.1.length < 100000 ∧ 0 ≤ t.2.2.2 ∧ t.2.2.2 ≤ 9
  prods : ∀ p ∈ g.2.2.1, nameB p.1 = true ∧ p.2.length ≤ 8 ∧ p.2.all nameB = true
  notes : ∀ n ∈ g.2.2.2, arS n.1 n.2.length = true ∧ n.2.all nameB = true
  start : g.2.1 = [] ∨ nameB g.2.1 = true
  began : b = true ↔ g.2.1 ≠ []
structure Ok (g : Gm) (b : Bool) : Prop extends Ok0 g b where
  sm : Sm g
section
end
end Go.Proofs.YtogipciicekmoaaGreatDoor.Vm.Gz
namespace Go.Proofs.YtogipciicekmoaaGreatDoor.Vm.Gz
open Go Go.Proofs.YtogipciicekmoaaGreatDoor.Vm
set_option linter.unusedVariables false
set_option maxRecDepth 100000
end Go.Proofs.YtogipciicekmoaaGreatDoor.Vm.Gz
namespace Go.Proofs.YtogipciicekmoaaGreatDoor.Vm.Gz
open Go Go.Proofs.YtogipciicekmoaaGreatDoor.Vm
set_option linter.unusedVariables false
set_option maxRecDepth 100000
theorem allLoop {β α : Type} (l : List β) (d0 : β) (P : β → Bool) (F : Nat → Int → Option α) (stop E : Option α) (hl : l.length < 1000000)
    (hF : ∀ n (i : Nat) (hi : i < l.length), F (n + 1) (i : Int) = iteB (P (l.getD i d0)) (F n (w64 ((i : Int) + 1))) stop) (hE : ∀ n, F (n + 1) (l.length : Int) = E) :
    F fuel ((0 : Nat) : Int) = iteB (l.all P) E stop := by
  have loop : ∀ (d n i : Nat), i + d = l.length → d < n → F n (i : Int) = iteB ((l.drop i).all P) E stop := by
    intro d
    induction d with
    | zero =>
      intro n i h1 h2
      obtain ⟨n', rfl⟩ : ∃ n', n = n' + 1 := ⟨n - 1, by omega⟩
      have : i = l.length := by omega
      subst this
      rw [hE, List.drop_length]
      rfl
    | succ d ih =>
      intro n i h1 h2
      obtain ⟨n', rfl⟩ : ∃ n', n = n' + 1 := ⟨n - 1, by omega⟩
      have hi : i < l.length := by omega
      rw [hF n' i hi, getD_at d0 hi, List.drop_eq_getElem_cons hi, List.all_cons]
      cases P l[i] with
      | true => rw [iteB_true, Bool.true_and, w64_succ (by omega)]; exact ih n' (i + 1) (by omega) (by omega)
      | false => rw [iteB_false, Bool.false_and]; rfl
  have := loop l.length fuel 0 (by omega) (fuel_gt _ (by omega))
  rw [List.drop_zero] at this
  exact this
def longB (l : D4) : Bool := decide (50 < l.length) || !l.all (fun s => !decide (100 < s.length))
theorem dec_cast (a b : Nat) : decide ((a : Int) < (b : Int)) = decide (a < b) := decide_eq_decide.2 (by omega)
theorem longer_eq (l : D4) : s_law10_longer (l, ()) = some (longB l, ()) := by
  have e : s_law10_longer (l, ()) = iteB (decide ((50 : Int) < ((l.length : Nat) : Int))) (some (true, ())) (law10_longer.p1 fuel fuel l ((0 : Nat) : Int)) := rfl
  rw [e, show ((50 : Int)) = ((50 : Nat) : Int) from rfl, dec_cast]
  unfold longB
  by_cases h : 50 < l.length
  · rw [decide_eq_true h]; rfl
  · rw [decide_eq_false h, iteB_false, Bool.false_or]
    rw [allLoop l [] (fun s => !decide (100 < s.length)) (fun n i => law10_longer.p1 fuel n l i) (some (true, ())) (some (false, ())) (by omega)
      (fun n i hi => by
        have e1 : law10_longer.p1 fuel (n + 1) l (i : Int) = law10_longer.t1 (law10_longer.p1 fuel n) (law10_longer.p2 fuel) l (i : Int) := rfl
        unfold law10_longer.t1 at e1
        rw [iteB_pos (lt_dec hi), withinR_nat hi, show ((100 : Int)) = ((100 : Nat) : Int) from rfl, dec_cast] at e1
        show law10_longer.p1 fuel (n + 1) l (i : Int) = _
        rw [e1]
        cases decide (100 < (l.getD i []).length) <;> rfl)
      (fun n => by
        have e1 : law10_longer.p1 fuel (n + 1) l (l.length : Int) = law10_longer.t1 (law10_longer.p1 fuel n) (law10_longer.p2 fuel) l (l.length : Int) := rfl
        unfold law10_longer.t1 at e1
        rw [iteB_neg lt_no] at e1
        exact e1)]
    cases l.all (fun s => !decide (100 < s.length)) <;> rfl
def gT (t : D2) : Bool := !decide (100 < t.1.length) && !decide (500 < t.2.1.length)
def gP (p : D5) : Bool := !decide (100 < p.1.length) && !longB p.2
def gN (n : D7) : Bool := !longB n.2
def smallB (g : Gm) : Bool := !decide (50 < g.1.length) && !decide (100 < g.2.2.1.length) && !decide (50 < g.2.2.2.length) && !decide (100 < g.2.1.length) && (g.1.all gT && (g.2.2.1.all gP && g.2.2.2.all gN))
theorem great_eq (g : Gm) : s_law10_Great (g, ()) = some (!smallB g, ()) := by
  have e : s_law10_Great (g, ()) = iteB (decide ((50 : Int) < ((g.1.length : Nat) : Int))) (some (true, ())) (iteB (decide ((100 : Int) < ((g.2.2.1.length : Nat) : Int))) (some (true, ())) (iteB (decide ((50 : Int) < ((g.2.2.2.length : Nat) : Int))) (some (true, ())) (law10_Great.p1 fuel (decide ((100 : Int) < ((g.2.1.length : Nat) : Int))) g))) := rfl
  have e1 : ∀ b, law10_Great.p1 fuel b g = iteB b (some (true, ())) (law10_Great.p3 fuel fuel ((0 : Nat) : Int) g) := fun _ => rfl
  rw [e, e1, show ((50 : Int)) = ((50 : Nat) : Int) from rfl, show ((100 : Int)) = ((100 : Nat) : Int) from rfl, dec_cast, dec_cast, dec_cast, dec_cast]
  unfold smallB
  by_cases h1 : 50 < g.1.length
  · rw [decide_eq_true h1]; rfl
  by_cases h2 : 100 < g.2.2.1.length
  · rw [decide_eq_false h1, decide_eq_true h2]; rfl
  by_cases h3 : 50 < g.2.2.2.length
  · rw [decide_eq_false h1, decide_eq_false h2, decide_eq_true h3]; rfl
  by_cases h4 : 100 < g.2.1.length
  · rw [decide_eq_false h1, decide_eq_false h2, decide_eq_false h3, decide_eq_true h4]; rfl
  rw [decide_eq_false h1, decide_eq_false h2, decide_eq_false h3, decide_eq_false h4, iteB_false, iteB_false, iteB_false, iteB_false]
  have lN : law10_Great.p11 fuel fuel ((0 : Nat) : Int) g = iteB (g.2.2.2.all gN) (some (false, ())) (some (true, ())) :=
    allLoop g.2.2.2 (0, []) gN (fun n i => law10_Great.p11 fuel n i g) _ _ (by omega)
      (fun n i hi => by
        have e1 : law10_Great.p11 fuel (n + 1) (i : Int) g = law10_Great.t11 (law10_Great.p11 fuel n) (law10_Great.p12 fuel) (i : Int) g := rfl
        unfold law10_Great.t11 at e1
        rw [iteB_pos (lt_dec hi), withinR_nat hi, longer_eq, bindR_val] at e1
        show law10_Great.p11 fuel (n + 1) (i : Int) g = _
        rw [e1]; unfold gN
        generalize longB _ = x
        cases x <;> rfl)
      (fun n => by
        have e1 : law10_Great.p11 fuel (n + 1) (g.2.2.2.length : Int) g = law10_Great.t11 (law10_Great.p11 fuel n) (law10_Great.p12 fuel) (g.2.2.2.length : Int) g := rfl
        unfold law10_Great.t11 at e1
        rw [iteB_neg lt_no] at e1
        exact e1)
  have lP : law10_Great.p7 fuel fuel ((0 : Nat) : Int) g = iteB (g.2.2.1.all gP) (law10_Great.p11 fuel fuel ((0 : Nat) : Int) g) (some (true, ())) :=
    allLoop g.2.2.1 ([], []) gP (fun n i => law10_Great.p7 fuel n i g) _ _ (by omega)
      (fun n i hi => by
        have e1 : law10_Great.p7 fuel (n + 1) (i : Int) g = law10_Great.t7 (law10_Great.p8 fuel (law10_Great.p7 fuel n)) (law10_Great.p9 fuel) (i : Int) g := rfl
        unfold law10_Great.t7 at e1
        rw [iteB_pos (lt_dec hi), withinR_nat hi, withinR_nat hi, longer_eq, bindR_val, show ((100 : Int)) = ((100 : Nat) : Int) from rfl, dec_cast] at e1
        show law10_Great.p7 fuel (n + 1) (i : Int) g = _
        rw [e1]; unfold gP
        generalize longB _ = x
        generalize decide (100 < _) = y
        cases y <;> cases x <;> rfl)
      (fun n => by
        have e1 : law10_Great.p7 fuel (n + 1) (g.2.2.1.length : Int) g = law10_Great.t7 (law10_Great.p8 fuel (law10_Great.p7 fuel n)) (law10_Great.p9 fuel) (g.2.2.1.length : Int) g := rfl
        unfold law10_Great.t7 at e1
        rw [iteB_neg lt_no] at e1
        exact e1)
  have lT : law10_Great.p3 fuel fuel ((0 : Nat) : Int) g = iteB (g.1.all gT) (law10_Great.p7 fuel fuel ((0 : Nat) : Int) g) (some (true, ())) :=
    allLoop g.1 zT gT (fun n i => law10_Great.p3 fuel n i g) _ _ (by omega)
      (fun n i hi => by
        have e1 : law10_Great.p3 fuel (n + 1) (i : Int) g = law10_Great.t3 (law10_Great.p4 fuel (law10_Great.p3 fuel n)) (law10_Great.p5 fuel) (i : Int) g := rfl
        unfold law10_Great.t3 at e1
        rw [iteB_pos (lt_dec hi), withinR_nat hi, withinR_nat hi, show ((100 : Int)) = ((100 : Nat) : Int) from rfl, show ((500 : Int)) = ((500 : Nat) : Int) from rfl, dec_cast, dec_cast] at e1
        show law10_Great.p3 fuel (n + 1) (i : Int) g = _
        rw [e1]; unfold gT
        show iteB (decide (100 < (g.1.getD i zT).1.length)) _ (law10_Great.p4 fuel (law10_Great.p3 fuel n) (i : Int) (decide (500 < (g.1.getD i zT).2.1.length)) g) = _
        generalize decide (500 < (g.1.getD i zT).2.1.length) = x
        generalize decide (100 < (g.1.getD i zT).1.length) = y
        cases y <;> cases x <;> rfl)
      (fun n => by
        have e1 : law10_Great.p3 fuel (n + 1) (g.1.length : Int) g = law10_Great.t3 (law10_Great.p4 fuel (law10_Great.p3 fuel n)) (law10_Great.p5 fuel) (g.1.length : Int) g := rfl
        unfold law10_Great.t3 at e1
        rw [iteB_neg lt_no] at e1
        exact e1)
  rw [lT, lP, lN]
  cases g.1.all gT <;> cases g.2.2.1.all gP <;> cases g.2.2.2.all gN <;> rfl
end Go.Proofs.YtogipciicekmoaaGreatDoor.Vm.Gz
namespace Go.Proofs.YtogipciicekmoaaGreatDoor.Vm.Gz
open Go Go.Proofs.YtogipciicekmoaaGreatDoor.Vm
set_option linter.unusedVariables false
set_option maxRecDepth 100000
structure Lt (g : Gm) : Prop where
  t : g.1.length ≤ 50
  p : g.2.2.1.length ≤ 100
  n : g.2.2.2.length ≤ 50
  s : g.2.1.length ≤ 100
  ts : ∀ t ∈ g.1, t.1.length ≤ 100 ∧ t.2.1.length ≤ 500
  ps : ∀ p ∈ g.2.2.1, p.1.length ≤ 100 ∧ p.2.length ≤ 50 ∧ ∀ x ∈ p.2, x.length ≤ 100
  ns : ∀ n ∈ g.2.2.2, n.2.length ≤ 50 ∧ ∀ x ∈ n.2, x.length ≤ 100
theorem long_no {l : D4} (h : longB l = false) : l.length ≤ 50 ∧ ∀ x ∈ l, x.length ≤ 100 := by
  unfold longB at h
  simp only [Bool.or_eq_false_iff, decide_eq_false_iff_not, Bool.not_eq_false', List.all_eq_true, Bool.not_eq_true', Nat.not_lt] at h
  exact h
theorem small_lt {g : Gm} (h : smallB g = true) : Lt g := by
  unfold smallB gT gP gN at h
  simp only [Bool.and_eq_true, Bool.not_eq_true', decide_eq_false_iff_not, List.all_eq_true, Nat.not_lt] at h
  obtain ⟨⟨⟨⟨h1, h2⟩, h3⟩, h4⟩, h5, h6, h7⟩ := h
  exact ⟨h1, h2, h3, h4, h5, fun p hp => ⟨(h6 p hp).1, long_no (h6 p hp).2⟩, fun n hn => long_no (h7 n hn)⟩
def tokB (t : D2) : Bool := nameB t.1 && (!decide (t.2.1 = []) && (Wh t.2.1 && (!decide (10 ∈ t.2.1) && (decide (0 ≤ t.2.2.2) && decide (t.2.2.2 ≤ 9)))))
def prdB (p : D5) : Bool := nameB p.1 && (decide (p.2.length ≤ 8) && p.2.all nameB)
def nteB (n : D7) : Bool := arS n.1 n.2.length && n.2.all nameB
def rightB (g : Gm) : Bool := !decide (32 < g.1.length) && (!decide (64 < g.2.2.1.length) && (!decide (16 < g.2.2.2.length) && ((decide (g.2.1 = []) || nameB g.2.1) && (g.1.all tokB && (g.2.2.1.all prdB && g.2.2.2.all nteB)))))
theorem contains_eq (s : List UInt8) : s_strings_Contains (s, ([10], ())) = some (decide (10 ∈ s), ()) := by
  have e : s_strings_Contains (s, ([10], ())) = some (decide ((0 : Int) ≤ findB 10 s 0), ()) := rfl
  rw [e]
  rcases findB_spec 10 s 0 with ⟨h1, h2⟩ | ⟨k, _, h2, h3⟩
  · rw [show findB 10 s 0 = -1 from h2, decide_eq_false h1]; rfl
  · rw [show findB 10 s 0 = ((0 + k : Nat) : Int) from h3, decide_eq_true (List.mem_of_getElem? h2), decide_eq_true (by omega)]
theorem cut_many (s : List UInt8) : decide ((1 : Int) < (((cutL 10 s).length : Nat) : Int)) = decide (10 ∈ s) := by
  rw [cutL_len]
  refine decide_eq_decide.2 ⟨fun h => List.count_pos_iff.1 (by omega), fun h => ?_⟩
  have := List.count_pos_iff.2 h
  omega
theorem wh_fuel {s : List UInt8} (h : s.length < 100000) : wh fuel s = Wh s := wh_any _ fuel _ (Nat.le_refl _) (by have := fuel_gt s.length (by omega); omega)
theorem rightToken_eq {t : D2} (h : t.2.1.length < 100000) : s_gram_rightToken (t, ()) = some (tokB t, ()) := by
  have e : s_gram_rightToken (t, ()) = gram_rightToken.t0 (t, ()) := rfl
  rw [e]
  unfold gram_rightToken.t0 tokB
  dsimp only
  rw [isName_eq, bindR_val, whole_eq _ (by omega), wh_fuel h, contains_eq]
  simp only [bindR_val, notB_eq]
  generalize decide (10 ∈ t.2.1) = x1
  generalize Wh t.2.1 = x2
  generalize decide (t.2.1 = []) = x3
  generalize nameB t.1 = x4
  generalize decide (0 ≤ t.2.2.2) = x5
  cases x1 <;> cases x2 <;> cases x3 <;> cases x4 <;> cases x5 <;> rfl
theorem rightProd_eq {p : D5} (h : p.2.length < 100000) : s_gram_rightProd (p, ()) = some (prdB p, ()) := by
  have e : s_gram_rightProd (p, ()) = gram_rightProd.t0 (p, ()) := rfl
  rw [e]
  unfold gram_rightProd.t0 prdB
  dsimp only
  rw [isName_eq, bindR_val, areNames_eq _ (by omega), bindR_val, show decide (((p.2.length : Nat) : Int) ≤ 8) = decide (p.2.length ≤ 8) from decide_eq_decide.2 (by omega)]
  generalize decide (p.2.length ≤ 8) = x1
  generalize nameB p.1 = x2
  generalize p.2.all nameB = x3
  cases x1 <;> cases x2 <;> cases x3 <;> rfl
theorem right3_eq {n : D7} (h : n.2.length < 100000) : s_gram_Right_3 (n, ()) = some (!nteB n, ()) := by
  have e : s_gram_Right_3 (n, ()) = gram_Right_3.t0 (n, ()) := rfl
  rw [e]
  unfold gram_Right_3.t0 nteB
  dsimp only
  rw [arity_eq, bindR_val, notB_eq, areNames_eq _ (by omega), bindR_val, notB_eq]
  generalize arS n.1 n.2.length = x1
  generalize n.2.all nameB = x2
  cases x1 <;> cases x2 <;> rfl
theorem not_any {α : Type} (l : List α) (P : α → Bool) : (l.any fun x => !P x) = !l.all P := by
  rw [List.all_eq_not_any_not, Bool.not_not]
theorem right_all {g : Gm} (hg : Lt g) : s_gram_Right (g, ()) = some (rightB g, ()) := by
  have e2 : gram_Right.p1 fuel false g = bindR (s_slices_ContainsFunc (g.1, ((), ()))) fun r2 => iteB r2.1 (some (false, ())) (bindR (s_slices_ContainsFuncx (g.2.2.1, ((), ()))) fun r3 => iteB r3.1 (some (false, ())) (bindR (s_slices_ContainsFuncxx (g.2.2.2, ((), ()))) fun r4 => some (notB r4.1, ()))) := rfl
  have c1 : s_slices_ContainsFunc (g.1, ((), ())) = some (!g.1.all tokB, ()) := by
    have e : s_slices_ContainsFunc (g.1, ((), ())) = bindR (slices_IndexFunc.p1 fuel fuel g.1 () ((g.1.length : Nat) : Int) ((0 : Nat) : Int)) fun r1 => some (decide ((0 : Int) ≤ r1.1), ()) := rfl
    obtain ⟨r, h1, h2⟩ := idx_gen g.1 zT (fun x => s_gram_Right_1 (x, ())) (fun x => !tokB x) (fun x hx => by
        have e : s_gram_Right_1 (x, ()) = bindR (s_gram_rightToken (x, ())) fun r1 => some (notB r1.1, ()) := rfl
        rw [e, rightToken_eq (by have := (hg.ts x hx).2; omega), bindR_val, notB_eq]) (fun n i => slices_IndexFunc.p1 fuel n g.1 () ((g.1.length : Nat) : Int) i)
      (fun n i hi => by
        have e1 : slices_IndexFunc.p1 fuel (n + 1) g.1 () ((g.1.length : Nat) : Int) (i : Int) = slices_IndexFunc.t1 (slices_IndexFunc.p1 fuel n) (slices_IndexFunc.p2 fuel) g.1 () ((g.1.length : Nat) : Int) (i : Int) := rfl
        unfold slices_IndexFunc.t1 at e1
        rw [iteB_pos (lt_dec hi), withinR_nat hi] at e1
        exact e1)
      (fun n => by
        have e1 : slices_IndexFunc.p1 fuel (n + 1) g.1 () ((g.1.length : Nat) : Int) (g.1.length : Int) = slices_IndexFunc.t1 (slices_IndexFunc.p1 fuel n) (slices_IndexFunc.p2 fuel) g.1 () ((g.1.length : Nat) : Int) (g.1.length : Int) := rfl
        unfold slices_IndexFunc.t1 at e1
        rw [iteB_neg lt_no] at e1
        exact e1) (by have := hg.t; omega)
    rw [e, h1, bindR_val, h2, not_any]
  have c2 : s_slices_ContainsFuncx (g.2.2.1, ((), ())) = some (!g.2.2.1.all prdB, ()) := by
    have e : s_slices_ContainsFuncx (g.2.2.1, ((), ())) = bindR (slices_IndexFuncx.p1 fuel fuel g.2.2.1 () ((g.2.2.1.length : Nat) : Int) ((0 : Nat) : Int)) fun r1 => some (decide ((0 : Int) ≤ r1.1), ()) := rfl
    obtain ⟨r, h1, h2⟩ := idx_gen g.2.2.1 ([], []) (fun x => s_gram_Right_2 (x, ())) (fun x => !prdB x) (fun x hx => by
        have e : s_gram_Right_2 (x, ()) = bindR (s_gram_rightProd (x, ())) fun r1 => some (notB r1.1, ()) := rfl
        rw [e, rightProd_eq (by have := (hg.ps x hx).2.1; omega), bindR_val, notB_eq]) (fun n i => slices_IndexFuncx.p1 fuel n g.2.2.1 () ((g.2.2.1.length : Nat) : Int) i)
      (fun n i hi => by
        have e1 : slices_IndexFuncx.p1 fuel (n + 1) g.2.2.1 () ((g.2.2.1.length : Nat) : Int) (i : Int) = slices_IndexFuncx.t1 (slices_IndexFuncx.p1 fuel n) (slices_IndexFuncx.p2 fuel) g.2.2.1 () ((g.2.2.1.length : Nat) : Int) (i : Int) := rfl
        unfold slices_IndexFuncx.t1 at e1
        rw [iteB_pos (lt_dec hi), withinR_nat hi] at e1
        exact e1)
      (fun n => by
        have e1 : slices_IndexFuncx.p1 fuel (n + 1) g.2.2.1 () ((g.2.2.1.length : Nat) : Int) (g.2.2.1.length : Int) = slices_IndexFuncx.t1 (slices_IndexFuncx.p1 fuel n) (slices_IndexFuncx.p2 fuel) g.2.2.1 () ((g.2.2.1.length : Nat) : Int) (g.2.2.1.length : Int) := rfl
        unfold slices_IndexFuncx.t1 at e1
        rw [iteB_neg lt_no] at e1
        exact e1) (by have := hg.p; omega)
    rw [e, h1, bindR_val, h2, not_any]
  have c3 : s_slices_ContainsFuncxx (g.2.2.2, ((), ())) = some (!g.2.2.2.all nteB, ()) := by
    have e : s_slices_ContainsFuncxx (g.2.2.2, ((), ())) = bindR (slices_IndexFuncxx.p1 fuel fuel g.2.2.2 () ((g.2.2.2.length : Nat) : Int) ((0 : Nat) : Int)) fun r1 => some (decide ((0 : Int) ≤ r1.1), ()) := rfl
    obtain ⟨r, h1, h2⟩ := idx_gen g.2.2.2 (0, []) (fun x => s_gram_Right_3 (x, ())) (fun x => !nteB x) (fun x hx => right3_eq (by have := (hg.ns x hx).1; omega)) (fun n i => slices_IndexFuncxx.p1 fuel n g.2.2.2 () ((g.2.2.2.length : Nat) : Int) i)
      (fun n i hi => by
        have e1 : slices_IndexFuncxx.p1 fuel (n + 1) g.2.2.2 () ((g.2.2.2.length : Nat) : Int) (i : Int) = slices_IndexFuncxx.t1 (slices_IndexFuncxx.p1 fuel n) (slices_IndexFuncxx.p2 fuel) g.2.2.2 () ((g.2.2.2.length : Nat) : Int) (i : Int) := rfl
        unfold slices_IndexFuncxx.t1 at e1
        rw [iteB_pos (lt_dec hi), withinR_nat hi] at e1
        exact e1)
      (fun n => by
        have e1 : slices_IndexFuncxx.p1 fuel (n + 1) g.2.2.2 () ((g.2.2.2.length : Nat) : Int) (g.2.2.2.length : Int) = slices_IndexFuncxx.t1 (slices_IndexFuncxx.p1 fuel n) (slices_IndexFuncxx.p2 fuel) g.2.2.2 () ((g.2.2.2.length : Nat) : Int) (g.2.2.2.length : Int) := rfl
        unfold slices_IndexFuncxx.t1 at e1
        rw [iteB_neg lt_no] at e1
        exact e1) (by have := hg.n; omega)
    rw [e, h1, bindR_val, h2, not_any]
  have e3 : gram_Right.p1 fuel false g = some (g.1.all tokB && (g.2.2.1.all prdB && g.2.2.2.all nteB), ()) := by
    rw [e2, c1, bindR_val, c2, bindR_val, c3, bindR_val, notB_eq]
    generalize g.1.all tokB = x1
    generalize g.2.2.1.all prdB = x2
    generalize g.2.2.2.all nteB = x3
    cases x1 <;> cases x2 <;> cases x3 <;> rfl
  have e4 : gram_Right.p1 fuel true g = some (false, ()) := rfl
  have e : s_gram_Right (g, ()) = iteB (decide ((32 : Int) < ((g.1.length : Nat) : Int))) (gram_Right.p1 fuel true g) (iteB (decide ((64 : Int) < ((g.2.2.1.length : Nat) : Int))) (gram_Right.p1 fuel true g) (iteB (decide ((16 : Int) < ((g.2.2.2.length : Nat) : Int))) (gram_Right.p1 fuel true g) (iteB (!(decide (g.2.1 = []))) (bindR (s_IsName (g.2.1, ())) fun r1 => gram_Right.p1 fuel (notB r1.1) g) (gram_Right.p1 fuel false g)))) := rfl
  rw [e, isName_eq, bindR_val, notB_eq, show ((32 : Int)) = ((32 : Nat) : Int) from rfl, show ((64 : Int)) = ((64 : Nat) : Int) from rfl, show ((16 : Int)) = ((16 : Nat) : Int) from rfl, dec_cast, dec_cast, dec_cast]
  unfold rightB
  generalize decide (32 < g.1.length) = y1
  generalize decide (64 < g.2.2.1.length) = y2
  generalize decide (16 < g.2.2.2.length) = y3
  generalize decide (g.2.1 = []) = y4
  generalize nameB g.2.1 = y5
  cases y1 <;> cases y2 <;> cases y3 <;> cases y4 <;> cases y5 <;> first | rfl | exact e3 | exact e4
theorem rarity_any (k : Int) (n : Nat) : ∃ lo hi : Int, s_ref10_Arity (k, ()) = some ((lo, hi), ()) ∧ arS k n = !(decide ((n : Int) < lo) || decide (hi < (n : Int))) := by
  by_cases hk : 1 ≤ k ∧ k ≤ 3
  · exact rarity_eq k hk n
  · refine ⟨1, 0, ?_, ?_⟩
    · have e : s_ref10_Arity (k, ()) = iteB (decide (k = 1)) (some ((2, 3), ())) (iteB (decide (k = 2)) (some ((4, 4), ())) (iteB (decide (k = 3)) (some ((2, 2), ())) (some ((1, 0), ())))) := rfl
      rw [e, decide_eq_false (by omega), decide_eq_false (by omega), decide_eq_false (by omega)]; rfl
    · have h1 : arS k n = false := decide_eq_false (by omega)
      rw [h1]
      by_cases h : (n : Int) < 1
      · rw [decide_eq_true h]; rfl
      · rw [decide_eq_true (show (0 : Int) < (n : Int) by omega)]; simp
theorem rright_all {g : Gm} (hg : Lt g) : s_ref10_Right (g, ()) = some (rightB g, ()) := by
  have lN : ref10_Right.p11 fuel fuel ((0 : Nat) : Int) g = iteB (g.2.2.2.all nteB) (some (true, ())) (some (false, ())) := by
    have := hg.n
    refine allLoop g.2.2.2 (0, []) nteB (fun n i => ref10_Right.p11 fuel n i g) _ _ (by omega) (fun n i hi => ?_) (fun n => ?_)
    · have e1 : ref10_Right.p11 fuel (n + 1) (i : Int) g = ref10_Right.t11 (ref10_Right.p12 fuel (ref10_Right.p11 fuel n)) (ref10_Right.p13 fuel) (i : Int) g := rfl
      have hm : g.2.2.2.getD i (0, []) ∈ g.2.2.2 := by rw [getD_at _ hi]; exact List.getElem_mem hi
      have hb := hg.ns _ hm
      obtain ⟨lo, hi', h1, h2⟩ := rarity_any (g.2.2.2.getD i (0, [])).1 (g.2.2.2.getD i (0, [])).2.length
      unfold ref10_Right.t11 at e1
      rw [iteB_pos (lt_dec hi), withinR_nat hi, h1, bindR_val, withinR_nat hi, withinR_nat hi, rnames_eq _ (by omega) (fun p hp => by have := hb.2 p hp; omega), bindR_val, notB_eq] at e1
      show ref10_Right.p11 fuel (n + 1) (i : Int) g = _
      rw [e1]
      unfold nteB
      rw [h2]
      generalize (g.2.2.2.getD i (0, [])).2.all nameB = x1
      dsimp only
      generalize decide ((((g.2.2.2.getD i (0, [])).2.length : Nat) : Int) < lo) = x2
      generalize decide (hi' < (((g.2.2.2.getD i (0, [])).2.length : Nat) : Int)) = x3
      cases x1 <;> cases x2 <;> cases x3 <;> rfl
    · have e1 : ref10_Right.p11 fuel (n + 1) (g.2.2.2.length : Int) g = ref10_Right.t11 (ref10_Right.p12 fuel (ref10_Right.p11 fuel n)) (ref10_Right.p13 fuel) (g.2.2.2.length : Int) g := rfl
      unfold ref10_Right.t11 at e1
      rw [iteB_neg lt_no] at e1
      exact e1
  have lP : ref10_Right.p7 fuel fuel ((0 : Nat) : Int) g = iteB (g.2.2.1.all prdB) (ref10_Right.p11 fuel fuel ((0 : Nat) : Int) g) (some (false, ())) := by
    have := hg.p
    refine allLoop g.2.2.1 ([], []) prdB (fun n i => ref10_Right.p7 fuel n i g) _ _ (by omega) (fun n i hi => ?_) (fun n => ?_)
    · have e1 : ref10_Right.p7 fuel (n + 1) (i : Int) g = ref10_Right.t7 (ref10_Right.p8 fuel (ref10_Right.p7 fuel n)) (ref10_Right.p9 fuel) (i : Int) g := rfl
      have hm : g.2.2.1.getD i ([], []) ∈ g.2.2.1 := by rw [getD_at _ hi]; exact List.getElem_mem hi
      have hb := hg.ps _ hm
      unfold ref10_Right.t7 at e1
      rw [iteB_pos (lt_dec hi), withinR_nat hi, rname_eq _ (by have := hb.1; omega), bindR_val, withinR_nat hi, withinR_nat hi, rnames_eq _ (by omega) (fun p hp => by have := hb.2.2 p hp; omega), bindR_val, notB_eq, notB_eq, show ((8 : Int)) = ((8 : Nat) : Int) from rfl, dec_cast] at e1
      show ref10_Right.p7 fuel (n + 1) (i : Int) g = _
      rw [e1]
      unfold prdB
      rw [show decide ((g.2.2.1.getD i ([], [])).2.length ≤ 8) = !decide (8 < (g.2.2.1.getD i ([], [])).2.length) from by rw [← decide_not]; exact decide_eq_decide.2 (by omega)]
      generalize (g.2.2.1.getD i ([], [])).2.all nameB = x1
      generalize decide (8 < (g.2.2.1.getD i ([], [])).2.length) = x2
      generalize nameB (g.2.2.1.getD i ([], [])).1 = x3
      cases x1 <;> cases x2 <;> cases x3 <;> rfl
    · have e1 : ref10_Right.p7 fuel (n + 1) (g.2.2.1.length : Int) g = ref10_Right.t7 (ref10_Right.p8 fuel (ref10_Right.p7 fuel n)) (ref10_Right.p9 fuel) (g.2.2.1.length : Int) g := rfl
      unfold ref10_Right.t7 at e1
      rw [iteB_neg lt_no] at e1
      exact e1
  have lT : ref10_Right.p3 fuel fuel ((0 : Nat) : Int) g = iteB (g.1.all tokB) (ref10_Right.p7 fuel fuel ((0 : Nat) : Int) g) (some (false, ())) := by
    have := hg.t
    refine allLoop g.1 zT tokB (fun n i => ref10_Right.p3 fuel n i g) _ _ (by omega) (fun n i hi => ?_) (fun n => ?_)
    · have e1 : ref10_Right.p3 fuel (n + 1) (i : Int) g = ref10_Right.t3 (ref10_Right.p4 fuel (ref10_Right.p3 fuel n)) (ref10_Right.p5 fuel) (i : Int) g := rfl
      have hm : g.1.getD i zT ∈ g.1 := by rw [getD_at _ hi]; exact List.getElem_mem hi
      have hb := hg.ts _ hm
      unfold ref10_Right.t3 at e1
      rw [iteB_pos (lt_dec hi), withinR_nat hi] at e1
      replace e1 : ref10_Right.p3 fuel (n + 1) (i : Int) g = (bindR (s_ref10_Name ((g.1.getD i zT).1, ())) fun r3 => (iteB (notB r3.1) (ref10_Right.p4 fuel (ref10_Right.p3 fuel n) (i : Int) true g) (iteB (decide ((g.1.getD i zT).2.1 = ([] : List UInt8))) (ref10_Right.p4 fuel (ref10_Right.p3 fuel n) (i : Int) true g) (bindR (s_ref01_Whole ((g.1.getD i zT).2.1, ())) fun r4 => (iteB (notB r4.1) (ref10_Right.p4 fuel (ref10_Right.p3 fuel n) (i : Int) true g) (bindR (s_ref10_cut ((g.1.getD i zT).2.1, ((10 : Int), ()))) fun r5 => (iteB (decide ((1 : Int) < ((List.length r5.1 : Nat) : Int))) (ref10_Right.p4 fuel (ref10_Right.p3 fuel n) (i : Int) true g) (iteB (decide ((g.1.getD i zT).2.2.2 < (0 : Int))) (ref10_Right.p4 fuel (ref10_Right.p3 fuel n) (i : Int) true g) (ref10_Right.p4 fuel (ref10_Right.p3 fuel n) (i : Int) (decide ((9 : Int) < (g.1.getD i zT).2.2.2)) g))))))))) := e1
      show ref10_Right.p3 fuel (n + 1) (i : Int) g = _
      rw [e1]
      generalize g.1.getD i zT = t at hb
      have hc := rcut_eq 10 t.2.1 (by omega)
      rw [rname_eq _ (by omega), bindR_val, rwhole_eq _ (by omega), bindR_val, wh_fuel (by omega), show s_ref10_cut (t.2.1, ((10 : Int), ())) = _ from hc, bindR_val, cut_many, notB_eq, notB_eq]
      unfold tokB
      rw [show decide (0 ≤ t.2.2.2) = !decide (t.2.2.2 < 0) from by rw [← decide_not]; exact decide_eq_decide.2 (by omega), show decide (t.2.2.2 ≤ 9) = !decide (9 < t.2.2.2) from by rw [← decide_not]; exact decide_eq_decide.2 (by omega)]
      generalize decide (10 ∈ t.2.1) = x1
      generalize Wh t.2.1 = x2
      generalize decide (t.2.1 = []) = x3
      generalize nameB t.1 = x4
      generalize decide (t.2.2.2 < 0) = x5
      generalize decide (9 < t.2.2.2) = x6
      cases x1 <;> cases x2 <;> cases x3 <;> cases x4 <;> cases x5 <;> cases x6 <;> rfl
    · have e1 : ref10_Right.p3 fuel (n + 1) (g.1.length : Int) g = ref10_Right.t3 (ref10_Right.p4 fuel (ref10_Right.p3 fuel n)) (ref10_Right.p5 fuel) (g.1.length : Int) g := rfl
      unfold ref10_Right.t3 at e1
      rw [iteB_neg lt_no] at e1
      exact e1
  have e3 : ref10_Right.p1 fuel false g = some (g.1.all tokB && (g.2.2.1.all prdB && g.2.2.2.all nteB), ()) := by
    have e : ref10_Right.p1 fuel false g = ref10_Right.p3 fuel fuel ((0 : Nat) : Int) g := rfl
    rw [e, lT, lP, lN]
    generalize g.1.all tokB = x1
    generalize g.2.2.1.all prdB = x2
    generalize g.2.2.2.all nteB = x3
    cases x1 <;> cases x2 <;> cases x3 <;> rfl
  have e4 : ref10_Right.p1 fuel true g = some (false, ()) := rfl
  have e : s_ref10_Right (g, ()) = iteB (decide ((32 : Int) < ((g.1.length : Nat) : Int))) (ref10_Right.p1 fuel true g) (iteB (decide ((64 : Int) < ((g.2.2.1.length : Nat) : Int))) (ref10_Right.p1 fuel true g) (iteB (decide ((16 : Int) < ((g.2.2.2.length : Nat) : Int))) (ref10_Right.p1 fuel true g) (iteB (!(decide (g.2.1 = []))) (bindR (s_ref10_Name (g.2.1, ())) fun r1 => ref10_Right.p1 fuel (notB r1.1) g) (ref10_Right.p1 fuel false g)))) := rfl
  rw [e, rname_eq _ (by have := hg.s; omega), bindR_val, notB_eq, show ((32 : Int)) = ((32 : Nat) : Int) from rfl, show ((64 : Int)) = ((64 : Nat) : Int) from rfl, show ((16 : Int)) = ((16 : Nat) : Int) from rfl, dec_cast, dec_cast, dec_cast]
  unfold rightB
  generalize decide (32 < g.1.length) = y1
  generalize decide (64 < g.2.2.1.length) = y2
  generalize decide (16 < g.2.2.2.length) = y3
  generalize decide (g.2.1 = []) = y4
  generalize nameB g.2.1 = y5
  cases y1 <;> cases y2 <;> cases y3 <;> cases y4 <;> cases y5 <;> first | rfl | exact e3 | exact e4
end Go.Proofs.YtogipciicekmoaaGreatDoor.Vm.Gz
namespace Go.Proofs.YtogipciicekmoaaGreatDoor.Vm.Gz
open Go Go.Proofs.YtogipciicekmoaaGreatDoor.Vm
open Go.Proofs.Wr (ln dg tksS prdsS ntsS stS txS okIn kdS)
set_option linter.unusedVariables false
set_option maxRecDepth 100000
theorem ln_cons (x : List UInt8) (r : D4) : ln (x :: r) = x ++ (Lib.joinTail [32] r ++ [10]) := by
  unfold ln
  rw [Lib.join_cons, List.append_assoc]
theorem jt_nil : Lib.joinTail [32] [] = [] := rfl
theorem jt_cons (y : List UInt8) (r : D4) : Lib.joinTail [32] (y :: r) = [32] ++ (y ++ Lib.joinTail [32] r) := by
  unfold Lib.joinTail
  rw [List.map_cons, List.flatten_cons, List.append_assoc]
theorem jt_len (r : D4) (h : ∀ x ∈ r, x.length ≤ 100) : (Lib.joinTail [32] r).length ≤ 101 * r.length := by
  induction r with
  | nil => simp [jt_nil]
  | cons y r ih =>
    rw [jt_cons, List.length_append, List.length_append, List.length_cons]
    have h1 := ih (fun x hx => h x (List.mem_cons_of_mem _ hx))
    have h2 := h y List.mem_cons_self
    simp only [List.length_cons, List.length_nil]
    omega
theorem tok_len (t : D2) (h1 : t.1.length ≤ 100) (h2 : t.2.1.length ≤ 500) : (Proofs.Wr.tokS t.1 t.2.1 t.2.2.1 t.2.2.2.toNat).length ≤ 1000 := by
  unfold Proofs.Wr.tokS Proofs.Wr.clsS
  rw [List.length_append, ln_cons, jt_cons, jt_cons, jt_nil]
  have hw : (Proofs.Wr.wdS t.2.2.1).length ≤ 5 := by cases t.2.2.1 <;> decide
  cases t.2.2.2.toNat with
  | zero => simp only [List.length_append, List.length_cons, List.length_nil]; omega
  | succ c =>
    dsimp only
    rw [ln_cons, jt_cons, jt_cons, jt_nil]
    have hc : Proofs.Wr.wClass.length = 5 := rfl
    have hd : (dg (c + 1)).length = 1 := rfl
    simp only [List.length_append, List.length_cons, List.length_nil, hc, hd]; omega
theorem tks_len : ∀ (l : D3), (∀ t ∈ l, t.1.length ≤ 100 ∧ t.2.1.length ≤ 500) → (tksS l).length ≤ 1000 * l.length
  | [], _ => Nat.zero_le _
  | t :: l, h => by
    have h1 := tks_len l (fun x hx => h x (List.mem_cons_of_mem _ hx))
    have h2 := tok_len t (h t List.mem_cons_self).1 (h t List.mem_cons_self).2
    show (Proofs.Wr.tokS t.1 t.2.1 t.2.2.1 t.2.2.2.toNat ++ tksS l).length ≤ _
    rw [List.length_append, List.length_cons]
    omega
theorem prd_len (p : D5) (h1 : p.1.length ≤ 100) (h2 : p.2.length ≤ 50) (h3 : ∀ x ∈ p.2, x.length ≤ 100) : (ln ([Proofs.Wr.wRule, p.1, [58]] ++ p.2)).length ≤ 5200 := by
  show (ln (Proofs.Wr.wRule :: p.1 :: [58] :: p.2)).length ≤ _
  rw [ln_cons, jt_cons, jt_cons]
  have := jt_len p.2 h3
  have hc : Proofs.Wr.wRule.length = 4 := rfl
  simp only [List.length_append, List.length_cons, List.length_nil, hc]; omega
theorem prds_len : ∀ (l : D6), (∀ p ∈ l, p.1.length ≤ 100 ∧ p.2.length ≤ 50 ∧ ∀ x ∈ p.2, x.length ≤ 100) → (prdsS l).length ≤ 5200 * l.length
  | [], _ => Nat.zero_le _
  | p :: l, h => by
    have h1 := prds_len l (fun x hx => h x (List.mem_cons_of_mem _ hx))
    have hp := h p List.mem_cons_self
    have h2 := prd_len p hp.1 hp.2.1 hp.2.2
    show (ln ([Proofs.Wr.wRule, p.1, [58]] ++ p.2) ++ prdsS l).length ≤ _
    rw [List.length_append, List.length_cons]
    omega
theorem kd_len (k : Int) : (kdS k).length ≤ 5 := by
  unfold kdS
  split <;> decide
theorem nte_len (n : D7) (h2 : n.2.length ≤ 50) (h3 : ∀ x ∈ n.2, x.length ≤ 100) : (ln (kdS n.1 :: n.2)).length ≤ 5200 := by
  rw [ln_cons]
  have := jt_len n.2 h3
  have hc := kd_len n.1
  simp only [List.length_append, List.length_cons, List.length_nil]; omega
theorem nts_len : ∀ (l : D8), (∀ n ∈ l, n.2.length ≤ 50 ∧ ∀ x ∈ n.2, x.length ≤ 100) → (ntsS l).length ≤ 5200 * l.length
  | [], _ => Nat.zero_le _
  | p :: l, h => by
    have h1 := nts_len l (fun x hx => h x (List.mem_cons_of_mem _ hx))
    have hp := h p List.mem_cons_self
    have h2 := nte_len p hp.1 hp.2
    show (ln (kdS p.1 :: p.2) ++ ntsS l).length ≤ _
    rw [List.length_append, List.length_cons]
    omega
theorem st_len (s : List UInt8) (h : s.length ≤ 100) : (stS s).length ≤ 200 := by
  unfold stS
  split
  · exact Nat.zero_le _
  · rw [ln_cons, jt_cons, jt_nil]
    have hc : Proofs.Wr.wStart.length = 5 := rfl
    simp only [List.length_append, List.length_cons, List.length_nil, hc] at h ⊢; omega
abbrev txG (g : Gm) : List UInt8 := txS g.1 g.2.1 g.2.2.1 g.2.2.2
theorem tx_len {g : Gm} (hg : Lt g) : (txG g).length ≤ 1000000 := by
  unfold txG txS
  have h1 := tks_len g.1 hg.ts
  have h2 := prds_len g.2.2.1 hg.ps
  have h3 := nts_len g.2.2.2 hg.ns
  have h4 := st_len g.2.1 hg.s
  have := hg.t
  have := hg.p
  have := hg.n
  simp only [List.length_append]
  omega
structure Rt (g : Gm) : Prop where
  t : g.1.length ≤ 32
  p : g.2.2.1.length ≤ 64
  n : g.2.2.2.length ≤ 16
  s : g.2.1 = [] ∨ nameB g.2.1 = true
  ts : ∀ t ∈ g.1, tokB t = true
  ps : ∀ p ∈ g.2.2.1, prdB p = true
  ns : ∀ n ∈ g.2.2.2, nteB n = true
theorem rt_of {g : Gm} (h : rightB g = true) : Rt g := by
  unfold rightB at h
  simp only [Bool.and_eq_true, Bool.or_eq_true, Bool.not_eq_true', decide_eq_false_iff_not, decide_eq_true_eq, List.all_eq_true, Nat.not_lt] at h
  obtain ⟨h1, h2, h3, h4, h5, h6, h7⟩ := h
  exact ⟨h1, h2, h3, h4, h5, h6, h7⟩
theorem tokB_facts {t : D2} (h : tokB t = true) : nameB t.1 = true ∧ t.2.1 ≠ [] ∧ Wh t.2.1 = true ∧ 10 ∉ t.2.1 ∧ 0 ≤ t.2.2.2 ∧ t.2.2.2 ≤ 9 := by
  unfold tokB at h
  simpa only [Bool.and_eq_true, Bool.not_eq_true', decide_eq_false_iff_not, decide_eq_true_eq] using h
theorem prdB_facts {p : D5} (h : prdB p = true) : nameB p.1 = true ∧ p.2.length ≤ 8 ∧ p.2.all nameB = true := by
  unfold prdB at h
  simpa only [Bool.and_eq_true, decide_eq_true_eq] using h
theorem nteB_facts {n : D7} (h : nteB n = true) : arS n.1 n.2.length = true ∧ n.2.all nameB = true := by
  unfold nteB at h
  simpa only [Bool.and_eq_true] using h
theorem arS_facts {k : Int} {n : Nat} (h : arS k n = true) : (1 ≤ k ∧ k ≤ 3) ∧ 2 ≤ n ∧ n ≤ 4 := by
  unfold arS at h
  have := of_decide_eq_true h
  omega
theorem okIn_of {g : Gm} (hg : Lt g) (hr : Rt g) : okIn g.1 g.2.1 g.2.2.1 g.2.2.2 = true := by
  unfold okIn
  simp only [Bool.and_eq_true, List.all_eq_true, decide_eq_true_eq]
  have := hr.t
  have := hr.p
  have := hr.n
  refine ⟨⟨⟨⟨⟨⟨fun t ht => ?_, fun p hp => ?_⟩, fun n hn => ?_⟩, tx_len hg⟩, by omega⟩, by omega⟩, by omega⟩
  · have := (tokB_facts (hr.ts t ht)).2.2.2.2
    exact ⟨this.1, by omega⟩
  · have := (prdB_facts (hr.ps p hp)).2.1
    omega
  · have := arS_facts (nteB_facts (hr.ns n hn)).1
    exact ⟨⟨this.1, by omega⟩, by omega⟩
def txA (g : Gm) : List UInt8 × Int := match rightB g with
  | true => txV (txG g)
  | false => ([], 1)
theorem text_eq {g : Gm} (hg : Lt g) : s_Text (g, ()) = some (txA g, ()) := by
  have e : s_Text (g, ()) = bindR (s_gram_Right (g, ())) fun q => iteB q.1 (mustR (okIn g.1 g.2.1 g.2.2.1 g.2.2.2) (some (txV (txG g), ()))) (some (([], 1), ())) := rfl
  rw [e, right_all hg, bindR_val]
  unfold txA
  cases h : rightB g with
  | false => rfl
  | true => rw [okIn_of hg (rt_of h)]; rfl
theorem dg_bytes {k : Int} (h0 : 0 ≤ k) (h9 : k ≤ 9) : bytesOf [w8 (w64 (48 + k))] = dg k.toNat := by
  have : k = 0 ∨ k = 1 ∨ k = 2 ∨ k = 3 ∨ k = 4 ∨ k = 5 ∨ k = 6 ∨ k = 7 ∨ k = 8 ∨ k = 9 := by omega
  rcases this with rfl | rfl | rfl | rfl | rfl | rfl | rfl | rfl | rfl | rfl <;> decide
theorem tok_app (x : List UInt8) (t : D2) (w : List UInt8) (hw : w = Proofs.Wr.wdS t.2.2.1 ++ [32]) : (((x ++ w) ++ t.1) ++ [32]) ++ t.2.1 ++ [10] = x ++ ln [Proofs.Wr.wdS t.2.2.1, t.1, t.2.1] := by
  rw [ln_cons, jt_cons, jt_cons, jt_nil, hw]
  simp only [List.append_assoc, List.nil_append, List.append_nil]
theorem cls_app (x nm d : List UInt8) : (((x ++ [99, 108, 97, 115, 115, 32]) ++ nm) ++ [32]) ++ d ++ [10] = x ++ ln [Proofs.Wr.wClass, nm, d] := by
  rw [ln_cons, jt_cons, jt_cons, jt_nil]
  simp only [List.append_assoc, List.nil_append, List.append_nil]
  rfl
theorem rtok_step (n : Nat) (i : Nat) (g : Gm) (hi : i < g.1.length) (x : List UInt8) (hx : x.length ≤ 1000000) (t : D2) (ht : g.1.getD i zT = t) (h1 : t.1.length ≤ 100) (h2 : t.2.1.length ≤ 500) (h0 : 0 ≤ t.2.2.2) (h9 : t.2.2.2 ≤ 9) :
    ref10_Text.p1 fuel (n + 1) x (i : Int) g = ref10_Text.p1 fuel n (x ++ Proofs.Wr.tokS t.1 t.2.1 t.2.2.1 t.2.2.2.toNat) (w64 ((i : Int) + 1)) g := by
  have e1 : ref10_Text.p1 fuel (n + 1) x (i : Int) g = ref10_Text.t1 (ref10_Text.p2 fuel (ref10_Text.p1 fuel n)) (ref10_Text.p3 fuel) x (i : Int) g := rfl
  unfold ref10_Text.t1 at e1
  rw [iteB_pos (lt_dec hi), withinR_nat hi] at e1
  replace e1 : ref10_Text.p1 fuel (n + 1) x (i : Int) g = iteB (g.1.getD i zT).2.2.1 (ref10_Text.p2 fuel (ref10_Text.p1 fuel n) x (i : Int) [115, 107, 105, 112, 32] g (g.1.getD i zT)) (ref10_Text.p2 fuel (ref10_Text.p1 fuel n) x (i : Int) [116, 111, 107, 101, 110, 32] g (g.1.getD i zT)) := e1
  rw [ht] at e1
  have key : ∀ w : List UInt8, w = Proofs.Wr.wdS t.2.2.1 ++ [32] → ref10_Text.p2 fuel (ref10_Text.p1 fuel n) x (i : Int) w g t = ref10_Text.p1 fuel n (x ++ Proofs.Wr.tokS t.1 t.2.1 t.2.2.1 t.2.2.2.toNat) (w64 ((i : Int) + 1)) g := by
    intro w hw
    have hwl : w.length ≤ 6 := by rw [hw]; cases t.2.2.1 <;> decide
    have e2 : ref10_Text.p2 fuel (ref10_Text.p1 fuel n) x (i : Int) w g t = ref10_Text.t2 (ref10_Text.p4 fuel (ref10_Text.p1 fuel n)) x (i : Int) w g t := rfl
    unfold ref10_Text.t2 at e2
    have hb : (bytesOf [w8 (w64 (48 + t.2.2.2))]).length = 1 := rfl
    rw [mustR_dec (by omega), mustR_dec (by simp only [List.length_append]; omega), mustR_dec (by simp only [List.length_append, List.length_cons, List.length_nil]; omega), mustR_dec (by simp only [List.length_append, List.length_cons, List.length_nil]; omega), mustR_dec (by simp only [List.length_append, List.length_cons, List.length_nil]; omega),
      mustR_dec (by simp only [List.length_append, List.length_cons, List.length_nil]; omega), mustR_dec (by simp only [List.length_append, List.length_cons, List.length_nil]; omega), mustR_dec (by simp only [List.length_append, List.length_cons, List.length_nil]; omega), mustR_dec (by simp only [List.length_append, List.length_cons, List.length_nil, hb]; omega), mustR_dec (by simp only [List.length_append, List.length_cons, List.length_nil, hb]; omega),
      tok_app x t w hw, cls_app, dg_bytes h0 h9] at e2
    rw [e2]
    unfold Proofs.Wr.tokS
    by_cases hp : 0 < t.2.2.2
    · rw [decide_eq_true hp, iteB_true]
      obtain ⟨c, hc⟩ : ∃ c, t.2.2.2.toNat = c + 1 := ⟨t.2.2.2.toNat - 1, by omega⟩
      rw [hc, List.append_assoc]
      rfl
    · rw [decide_eq_false hp, iteB_false]
      have hc : t.2.2.2.toNat = 0 := by omega
      rw [hc]
      show _ = ref10_Text.p1 fuel n (x ++ (ln [Proofs.Wr.wdS t.2.2.1, t.1, t.2.1] ++ [])) (w64 ((i : Int) + 1)) g
      rw [List.append_nil]
      rfl
  rw [e1]
  cases hs : t.2.2.1 with
  | true => rw [iteB_true]; rw [hs] at key; exact key _ rfl
  | false => rw [iteB_false]; rw [hs] at key; exact key _ rfl
end Go.Proofs.YtogipciicekmoaaGreatDoor.Vm.Gz
namespace Go.Proofs.YtogipciicekmoaaGreatDoor.Vm.Gz
open Go Go.Proofs.YtogipciicekmoaaGreatDoor.Vm
open Go.Proofs.Wr (ln dg tksS prdsS ntsS stS txS okIn kdS)
set_option linter.unusedVariables false
set_option maxRecDepth 100000
theorem rprd_in (a6 : ref10_Text.T6) (g : Gm) (i : Nat) (hi : i < g.2.2.1.length) (p : D5) (hp : g.2.2.1.getD i ([], []) = p) (h2 : p.2.length ≤ 50) (h3 : ∀ x ∈ p.2, x.length ≤ 100) :
    ∀ (d n j : Nat) (x : List UInt8), j + d = p.2.length → d < n → x.length + 200 * d ≤ 2000000 → ref10_Text.p7 fuel a6 n x (i : Int) (j : Int) g = a6 (x ++ (Lib.joinTail [32] (p.2.drop j) ++ [10])) (w64 ((i : Int) + 1)) g := by
  intro d
  induction d with
  | zero =>
    intro n j x h1 hn hx
    obtain ⟨n', rfl⟩ : ∃ n', n = n' + 1 := ⟨n - 1, by omega⟩
    have hj : j = p.2.length := by omega
    subst hj
    have e1 : ref10_Text.p7 fuel a6 (n' + 1) x (i : Int) (p.2.length : Int) g = ref10_Text.t7 (ref10_Text.p7 fuel a6 n') (ref10_Text.p9 fuel a6) x (i : Int) (p.2.length : Int) g := rfl
    unfold ref10_Text.t7 at e1
    rw [withinR_nat hi] at e1
    replace e1 := e1.trans (show _ = iteB (decide (((p.2.length : Nat) : Int) < (((g.2.2.1.getD i ([], [])).2.length : Nat) : Int))) _ (ref10_Text.p9 fuel a6 x (i : Int) g) from rfl)
    rw [hp, iteB_neg lt_no] at e1
    have e2 : ref10_Text.p9 fuel a6 x (i : Int) g = mustR (decide (x.length + ([10] : List UInt8).length ≤ 140737488355328)) (a6 (x ++ [10]) (w64 ((i : Int) + 1)) g) := rfl
    rw [e1, e2, mustR_dec (by simp only [List.length_cons, List.length_nil]; omega), List.drop_length, jt_nil, List.nil_append]
  | succ d ih =>
    intro n j x h1 hn hx
    obtain ⟨n', rfl⟩ : ∃ n', n = n' + 1 := ⟨n - 1, by omega⟩
    have hj : j < p.2.length := by omega
    have hy := h3 (p.2.getD j []) (by rw [getD_at _ hj]; exact List.getElem_mem hj)
    have e1 : ref10_Text.p7 fuel a6 (n' + 1) x (i : Int) (j : Int) g = ref10_Text.t7 (ref10_Text.p7 fuel a6 n') (ref10_Text.p9 fuel a6) x (i : Int) (j : Int) g := rfl
    unfold ref10_Text.t7 at e1
    rw [withinR_nat hi, withinR_nat hi, hp, iteB_pos (lt_dec hj), withinR_nat hj, mustR_dec (by simp only [List.length_cons, List.length_nil]; omega), mustR_dec (by simp only [List.length_append, List.length_cons, List.length_nil]; omega), w64_succ (by omega)] at e1
    rw [e1, ih n' (j + 1) _ (by omega) (by omega) (by simp only [List.length_append, List.length_cons, List.length_nil]; omega), List.drop_eq_getElem_cons hj, jt_cons, getD_at _ hj]
    simp only [List.append_assoc]
theorem rnte_in (a11 : ref10_Text.T11) (g : Gm) (i : Nat) (hi : i < g.2.2.2.length) (p : D7) (hp : g.2.2.2.getD i (0, []) = p) (h2 : p.2.length ≤ 50) (h3 : ∀ x ∈ p.2, x.length ≤ 100) :
    ∀ (d n j : Nat) (x : List UInt8), j + d = p.2.length → d < n → x.length + 200 * d ≤ 2000000 → ref10_Text.p12 fuel a11 n x (i : Int) (j : Int) g = a11 (x ++ (Lib.joinTail [32] (p.2.drop j) ++ [10])) (w64 ((i : Int) + 1)) g := by
  intro d
  induction d with
  | zero =>
    intro n j x h1 hn hx
    obtain ⟨n', rfl⟩ : ∃ n', n = n' + 1 := ⟨n - 1, by omega⟩
    have hj : j = p.2.length := by omega
    subst hj
    have e1 : ref10_Text.p12 fuel a11 (n' + 1) x (i : Int) (p.2.length : Int) g = ref10_Text.t12 (ref10_Text.p12 fuel a11 n') (ref10_Text.p14 fuel a11) x (i : Int) (p.2.length : Int) g := rfl
    unfold ref10_Text.t12 at e1
    rw [withinR_nat hi] at e1
    replace e1 := e1.trans (show _ = iteB (decide (((p.2.length : Nat) : Int) < (((g.2.2.2.getD i (0, [])).2.length : Nat) : Int))) _ (ref10_Text.p14 fuel a11 x (i : Int) g) from rfl)
    rw [hp, iteB_neg lt_no] at e1
    have e2 : ref10_Text.p14 fuel a11 x (i : Int) g = mustR (decide (x.length + ([10] : List UInt8).length ≤ 140737488355328)) (a11 (x ++ [10]) (w64 ((i : Int) + 1)) g) := rfl
    rw [e1, e2, mustR_dec (by simp only [List.length_cons, List.length_nil]; omega), List.drop_length, jt_nil, List.nil_append]
  | succ d ih =>
    intro n j x h1 hn hx
    obtain ⟨n', rfl⟩ : ∃ n', n = n' + 1 := ⟨n - 1, by omega⟩
    have hj : j < p.2.length := by omega
    have hy := h3 (p.2.getD j []) (by rw [getD_at _ hj]; exact List.getElem_mem hj)
    have e1 : ref10_Text.p12 fuel a11 (n' + 1) x (i : Int) (j : Int) g = ref10_Text.t12 (ref10_Text.p12 fuel a11 n') (ref10_Text.p14 fuel a11) x (i : Int) (j : Int) g := rfl
    unfold ref10_Text.t12 at e1
    rw [withinR_nat hi, withinR_nat hi, hp, iteB_pos (lt_dec hj), withinR_nat hj, mustR_dec (by simp only [List.length_cons, List.length_nil]; omega), mustR_dec (by simp only [List.length_append, List.length_cons, List.length_nil]; omega), w64_succ (by omega)] at e1
    rw [e1, ih n' (j + 1) _ (by omega) (by omega) (by simp only [List.length_append, List.length_cons, List.length_nil]; omega), List.drop_eq_getElem_cons hj, jt_cons, getD_at _ hj]
    simp only [List.append_assoc]
theorem kd_at {k : Int} (h : 1 ≤ k ∧ k ≤ 3) {α : Type} (F : Nat → Option α) (G : List UInt8 → Option α) (hF : ∀ q, q < 4 → F q = G (List.getD [[], [108, 105, 115, 116], [100, 101, 108, 105, 109], [104, 111, 108, 101]] q [])) : withinR k 4 F = G (kdS k) := by
  have : k = 1 ∨ k = 2 ∨ k = 3 := by omega
  rcases this with rfl | rfl | rfl
  · exact (withinR_nat (i := 1) (by omega) F).trans (hF 1 (by omega))
  · exact (withinR_nat (i := 2) (by omega) F).trans (hF 2 (by omega))
  · exact (withinR_nat (i := 3) (by omega) F).trans (hF 3 (by omega))
theorem rtext_eq {g : Gm} (hg : Lt g) (hr : Rt g) : s_ref10_Text (g, ()) = some (txG g, ()) := by
  have hT := tks_len g.1 hg.ts
  have hP := prds_len g.2.2.1 hg.ps
  have hN := nts_len g.2.2.2 hg.ns
  have hS := st_len g.2.1 hg.s
  have b1 := hg.t
  have b2 := hg.p
  have b3 := hg.n
  have e : s_ref10_Text (g, ()) = ref10_Text.p1 fuel fuel [] ((0 : Nat) : Int) g := rfl
  obtain ⟨s1, i1, l1⟩ := loopAll (N := g.1.length) (fun n s i => ref10_Text.p1 fuel n s i g) (fun s => ref10_Text.p3 fuel s g) (fun i s => s ++ tksS (g.1.drop i) = tksS g.1) [] 0 (Nat.zero_le _) rfl (by omega)
    (fun n i s hi hs => by
      have hm : g.1.getD i zT ∈ g.1 := by rw [getD_at _ hi]; exact List.getElem_mem hi
      have hl : s.length ≤ 1000000 := by have := congrArg List.length hs; rw [List.length_append] at this; omega
      have hf := (tokB_facts (hr.ts _ hm)).2.2.2.2
      refine ⟨_, ?_, rtok_step n i g hi s hl (g.1.getD i zT) rfl (hg.ts _ hm).1 (hg.ts _ hm).2 hf.1 hf.2⟩
      rw [List.append_assoc]
      rw [List.drop_eq_getElem_cons hi, ← getD_at zT hi] at hs
      exact hs)
    (fun n s _ => by
      have e1 : ref10_Text.p1 fuel (n + 1) s (g.1.length : Int) g = ref10_Text.t1 (ref10_Text.p2 fuel (ref10_Text.p1 fuel n)) (ref10_Text.p3 fuel) s (g.1.length : Int) g := rfl
      unfold ref10_Text.t1 at e1
      rw [iteB_neg lt_no] at e1
      exact e1)
  rw [List.drop_length] at i1
  have i1 : s1 = tksS g.1 := (List.append_nil s1).symm.trans i1
  subst i1
  have l3 : ref10_Text.p3 fuel (tksS g.1) g = ref10_Text.p5 fuel (tksS g.1 ++ stS g.2.1) g := by
    have e1 : ref10_Text.p3 fuel (tksS g.1) g = ref10_Text.t3 (ref10_Text.p5 fuel) (tksS g.1) g := rfl
    unfold ref10_Text.t3 at e1
    rw [e1]
    cases hs : g.2.1 with
    | nil => rw [decide_eq_true rfl, Bool.not_true, iteB_false]; show _ = ref10_Text.p5 fuel (tksS g.1 ++ []) g; rw [List.append_nil]
    | cons c r =>
      have h100 := hg.s
      rw [hs] at h100
      rw [decide_eq_false (by simp), Bool.not_false, iteB_true, mustR_dec (by simp only [List.length_cons, List.length_nil]; omega), mustR_dec (by simp only [List.length_append, List.length_cons, List.length_nil] at h100 ⊢; omega), mustR_dec (by simp only [List.length_append, List.length_cons, List.length_nil] at h100 ⊢; omega)]
      congr 1
      show _ = tksS g.1 ++ ln [Proofs.Wr.wStart, c :: r]
      rw [ln_cons, jt_cons, jt_nil]
      simp only [List.append_assoc, List.append_nil]
      rfl
  generalize hX : tksS g.1 ++ stS g.2.1 = X at *
  have hXl : X.length ≤ 51000 := by rw [← hX, List.length_append]; omega
  obtain ⟨s2, i2, l4⟩ := loopAll (N := g.2.2.1.length) (fun n s i => ref10_Text.p6 fuel n s i g) (fun s => ref10_Text.p8 fuel s g) (fun i s => s ++ prdsS (g.2.2.1.drop i) = X ++ prdsS g.2.2.1) X 0 (Nat.zero_le _) rfl (by omega)
    (fun n i s hi hs => by
      have hm : g.2.2.1.getD i ([], []) ∈ g.2.2.1 := by rw [getD_at _ hi]; exact List.getElem_mem hi
      have hl : s.length ≤ 1000000 := by have := congrArg List.length hs; rw [List.length_append, List.length_append] at this; omega
      have hb := hg.ps _ hm
      have e1 : ref10_Text.p6 fuel (n + 1) s (i : Int) g = ref10_Text.t6 (ref10_Text.p7 fuel (ref10_Text.p6 fuel n) fuel) (ref10_Text.p8 fuel) s (i : Int) g := rfl
      unfold ref10_Text.t6 at e1
      rw [iteB_pos (lt_dec hi), mustR_dec (by simp only [List.length_cons, List.length_nil]; omega), withinR_nat hi] at e1
      generalize hp : g.2.2.1.getD i ([], []) = p at *
      rw [mustR_dec (by simp only [List.length_append, List.length_cons, List.length_nil]; omega), mustR_dec (by simp only [List.length_append, List.length_cons, List.length_nil]; omega)] at e1
      have e2 := rprd_in (ref10_Text.p6 fuel n) g i hi p hp hb.2.1 hb.2.2 p.2.length fuel 0 (((s ++ [114, 117, 108, 101, 32]) ++ p.1) ++ [32, 58]) (by omega) (fuel_gt _ (by omega)) (by simp only [List.length_append, List.length_cons, List.length_nil]; omega)
      refine ⟨s ++ ln ([Proofs.Wr.wRule, p.1, [58]] ++ p.2), ?_, ?_⟩
      · rw [List.append_assoc]
        rw [List.drop_eq_getElem_cons hi, ← getD_at ([], []) hi, hp] at hs
        exact hs
      · show ref10_Text.p6 fuel (n + 1) s (i : Int) g = _
        rw [e1]
        refine e2.trans ?_
        rw [List.drop_zero]
        congr 1
        show _ = s ++ ln (Proofs.Wr.wRule :: p.1 :: [58] :: p.2)
        rw [ln_cons, jt_cons, jt_cons]
        simp only [List.append_assoc]
        rfl)
    (fun n s _ => by
      have e1 : ref10_Text.p6 fuel (n + 1) s (g.2.2.1.length : Int) g = ref10_Text.t6 (ref10_Text.p7 fuel (ref10_Text.p6 fuel n) fuel) (ref10_Text.p8 fuel) s (g.2.2.1.length : Int) g := rfl
      unfold ref10_Text.t6 at e1
      rw [iteB_neg lt_no] at e1
      exact e1)
  rw [List.drop_length] at i2
  have i2 : s2 = X ++ prdsS g.2.2.1 := (List.append_nil s2).symm.trans i2
  generalize hY : X ++ prdsS g.2.2.1 = Y at *
  have hYl : Y.length ≤ 600000 := by rw [← hY, List.length_append]; omega
  subst i2
  obtain ⟨s3, i3, l5⟩ := loopAll (N := g.2.2.2.length) (fun n s i => ref10_Text.p11 fuel n s i g) (fun s => ref10_Text.p13 fuel s) (fun i s => s ++ ntsS (g.2.2.2.drop i) = s2 ++ ntsS g.2.2.2) s2 0 (Nat.zero_le _) rfl (by omega)
    (fun n i s hi hs => by
      have hm : g.2.2.2.getD i (0, []) ∈ g.2.2.2 := by rw [getD_at _ hi]; exact List.getElem_mem hi
      have hl : s.length ≤ 1000000 := by have := congrArg List.length hs; rw [List.length_append, List.length_append] at this; omega
      have hb := hg.ns _ hm
      have hk := (arS_facts (nteB_facts (hr.ns _ hm)).1).1
      have e1 : ref10_Text.p11 fuel (n + 1) s (i : Int) g = ref10_Text.t11 (ref10_Text.p12 fuel (ref10_Text.p11 fuel n) fuel) (ref10_Text.p13 fuel) s (i : Int) g := rfl
      unfold ref10_Text.t11 at e1
      rw [iteB_pos (lt_dec hi), withinR_nat hi] at e1
      generalize hp : g.2.2.2.getD i (0, []) = p at *
      replace e1 := e1.trans (kd_at hk _ (fun q => mustR (decide (s.length + q.length ≤ 140737488355328)) (ref10_Text.p12 fuel (ref10_Text.p11 fuel n) fuel (s ++ q) (i : Int) ((0 : Nat) : Int) g)) (fun q _ => rfl))
      have hkl := kd_len p.1
      replace e1 := e1.trans (mustR_dec (by omega) _)
      have e2 := rnte_in (ref10_Text.p11 fuel n) g i hi p hp hb.1 hb.2 p.2.length fuel 0 (s ++ kdS p.1) (by omega) (fuel_gt _ (by omega)) (by simp only [List.length_append]; omega)
      refine ⟨s ++ ln (kdS p.1 :: p.2), ?_, ?_⟩
      · rw [List.append_assoc]
        rw [List.drop_eq_getElem_cons hi, ← getD_at (0, []) hi, hp] at hs
        exact hs
      · show ref10_Text.p11 fuel (n + 1) s (i : Int) g = _
        rw [e1]
        refine e2.trans ?_
        rw [List.drop_zero]
        congr 1
        rw [ln_cons, List.append_assoc])
    (fun n s _ => by
      have e1 : ref10_Text.p11 fuel (n + 1) s (g.2.2.2.length : Int) g = ref10_Text.t11 (ref10_Text.p12 fuel (ref10_Text.p11 fuel n) fuel) (ref10_Text.p13 fuel) s (g.2.2.2.length : Int) g := rfl
      unfold ref10_Text.t11 at e1
      rw [iteB_neg lt_no] at e1
      exact e1)
  rw [List.drop_length] at i3
  have i3 : s3 = s2 ++ ntsS g.2.2.2 := (List.append_nil s3).symm.trans i3
  rw [e]
  refine l1.trans (l3.trans ?_)
  have e5 : ref10_Text.p5 fuel X g = ref10_Text.p6 fuel fuel X ((0 : Nat) : Int) g := rfl
  have e8 : ref10_Text.p8 fuel s2 g = ref10_Text.p11 fuel fuel s2 ((0 : Nat) : Int) g := rfl
  rw [e5]
  refine l4.trans ?_
  rw [e8]
  refine l5.trans ?_
  have e13 : ref10_Text.p13 fuel s3 = some (s3, ()) := rfl
  rw [e13, i3, ← hY, ← hX]
  rfl
theorem gramTexts_law (g : Gm) (s : List UInt8) : s_law10_GramTexts (g, (s, ())) = some (true, ()) := by
  have e : s_law10_GramTexts (g, (s, ())) = bindR (s_law10_alive ()) fun r1 => iteB (notB r1.1) (some (false, ())) (bindR (s_law10_Great (g, ())) fun r2 => iteB r2.1 (law10_GramTexts.p1 fuel s true g) (law10_GramTexts.p1 fuel s (decide ((200 : Int) < ((s.length : Nat) : Int))) g)) := rfl
  have e1 : law10_GramTexts.p1 fuel s true g = some (true, ()) := rfl
  have e2 : law10_GramTexts.p1 fuel s false g = law10_GramTexts.p2 fuel s g := rfl
  rw [e, alive_eq, bindR_val, notB_eq, Bool.not_true, iteB_false, great_eq, bindR_val]
  cases h : smallB g with
  | false => rw [Bool.not_false, iteB_true, e1]
  | true =>
    have hg := small_lt h
    rw [Bool.not_true, iteB_false]
    by_cases hs : s.length > 200
    · rw [decide_eq_true (by omega), e1]
    · rw [decide_eq_false (by omega), e2]
      have e3 : law10_GramTexts.p2 fuel s g = law10_GramTexts.t2 (law10_GramTexts.p3 fuel) s g := rfl
      have e4 : s_gram_Right_i1 (g, ()) = s_gram_Right (g, ()) := rfl
      have e5 : ∀ (x : List UInt8) (y : Int), law10_GramTexts.p3 fuel x y false g = law10_GramTexts.t4 x y g := fun _ _ => rfl
      rw [e3]
      unfold law10_GramTexts.t2
      rw [text_eq hg, bindR_val, e4, right_all hg, bindR_val, rright_all hg, bindR_val, isName_eq, bindR_val, rname_eq _ (by omega), bindR_val]
      simp only [beq_self_eq_true, Bool.not_true, iteB_false]
      rw [e5]
      unfold law10_GramTexts.t4 txA
      rw [rright_all hg, bindR_val]
      cases hr : rightB g with
      | false => rfl
      | true =>
        rw [notB_eq, Bool.not_true, iteB_false, rtext_eq hg (rt_of hr), bindR_val]
        unfold txV
        dsimp only
        by_cases hl : (txG g).length > 4000
        · rw [decide_eq_true hl, decide_eq_true (by omega), iteB_true]; rfl
        · rw [decide_eq_false hl, decide_eq_false (by omega), iteB_false]
          show iteB (decide ((0 : Int) = 0)) (some (decide (txG g = txG g), ())) _ = _
          rw [decide_eq_true rfl, decide_eq_true rfl, iteB_true]
end Go.Proofs.YtogipciicekmoaaGreatDoor.Vm.Gz
namespace Go.Proofs.YtogipciicekmoaaGreatDoor.Vm.Gz
open Go Go.Proofs.YtogipciicekmoaaGreatDoor.Vm
theorem F_texts : F_law10_GramTexts.f = s_law10_GramTexts := by kernel_rfl
end Go.Proofs.YtogipciicekmoaaGreatDoor.Vm.Gz
