/- The plain laws of descriptions. -/
import Derived.Test.YtogipciicekmoaaDoorVm3
import Derived.Test.YtogipciicekmoaaDoorFnsB
namespace Go.Proofs.YtogipciicekmoaaDoor.Vm
open Go
section
variable {α β : Type}
@[simp] theorem iteB_true (a b : Option α) : iteB true a b = a := rfl
@[simp] theorem iteB_false (a b : Option α) : iteB false a b = b := rfl
@[simp] theorem mustR_true (κ : Option α) : mustR true κ = κ := rfl
@[simp] theorem bindR_val (y : β) (κ : β → Option α) : bindR (some y) κ = κ y := rfl
theorem iteB_eq (c : Bool) (a b : Option α) : iteB c a b = if c = true then a else b := by cases c <;> rfl
theorem iteB_pos {c : Bool} (h : c = true) (a b : Option α) : iteB c a b = a := by subst h; rfl
theorem iteB_neg {c : Bool} (h : c = false) (a b : Option α) : iteB c a b = b := by subst h; rfl
theorem iteB_dec {p : Prop} [Decidable p] (a b : Option α) : iteB (decide p) a b = if p then a else b := by
  by_cases h : p
  · rw [if_pos h]; exact iteB_pos (decide_eq_true h) a b
  · rw [if_neg h]; exact iteB_neg (decide_eq_false h) a b
theorem mustR_pos {c : Bool} (h : c = true) (κ : Option α) : mustR c κ = κ := by subst h; rfl
theorem mustR_dec {p : Prop} [Decidable p] (h : p) (κ : Option α) : mustR (decide p) κ = κ := mustR_pos (decide_eq_true h) κ
theorem withinR_nat {i n : Nat} (h : i < n) (κ : Nat → Option α) : withinR (i : Int) n κ = κ i := by
  unfold withinR
  rw [mustR_dec (by omega), mustR_dec (by omega)]; rfl
theorem withinR_pos {i : Int} {n : Nat} (h0 : 0 ≤ i) (h : i < n) (κ : Nat → Option α) : withinR i n κ = κ i.toNat := by
  unfold withinR
  rw [mustR_dec h0, mustR_dec h]
theorem withinR_zero {n : Nat} (h : 0 < n) (κ : Nat → Option α) : withinR 0 n κ = κ 0 := withinR_nat (i := 0) h κ
theorem notB_eq (b : Bool) : notB b = !b := rfl
@[simp] theorem notB_true : notB true = false := rfl
@[simp] theorem notB_false : notB false = true := rfl
theorem w64_id {n : Int} (h0 : -9223372036854775808 ≤ n) (h1 : n < 9223372036854775808) : w64 n = n := by
  simp [w64, IntKind.wrap, IntKind.bits, IntKind.signed]; omega
theorem w8_id {n : Int} (h0 : 0 ≤ n) (h1 : n < 256) : w8 n = n := by
  simp [w8, IntKind.wrap, IntKind.bits, IntKind.signed]; omega
theorem byteAt_range (l : List UInt8) (i : Nat) : 0 ≤ byteAt l i ∧ byteAt l i < 256 := by
  have := (List.getD l i 0).toNat_lt
  unfold byteAt; omega
theorem w64_byte (l : List UInt8) (i : Nat) : w64 (byteAt l i) = byteAt l i := by
  have := byteAt_range l i
  exact w64_id (by omega) (by omega)
theorem bits_nat (x : Nat) (h : x < 18446744073709551616) : (BitVec.ofInt 64 (x : Int)).toNat = x := by
  rw [BitVec.toNat_ofInt]
  omega
theorem w64_nat {n : Nat} (h : n < 9223372036854775808) : w64 (n : Int) = n := w64_id (by omega) (by omega)
theorem bitI_or (x y : Nat) (hx : x < 9223372036854775808) (hy : y < 9223372036854775808) : bitI .or .i64 (x : Int) (y : Int) = ((x ||| y : Nat) : Int) := by
  have h : x ||| y < 2 ^ 63 := Nat.or_lt_two_pow (by omega) (by omega)
  have e : bitI .or .i64 (x : Int) (y : Int) = w64 (((BitVec.ofInt 64 (x : Int) ||| BitVec.ofInt 64 (y : Int)).toNat : Nat) : Int) := rfl
  rw [e, BitVec.toNat_or, bits_nat x (by omega), bits_nat y (by omega)]
  exact w64_nat (by omega)
theorem or_add (a b k : Nat) (h : b < 2 ^ k) : (a * 2 ^ k) ||| b = a * 2 ^ k + b := by
  rw [← Nat.shiftLeft_eq, Nat.shiftLeft_add_eq_or_of_lt h]
theorem bitI_shl_or (n m : Nat) (hn : n < 70368744177664) (hm : m < 64) : bitI .or .i64 (shlI .i64 (n : Int) 6) (m : Int) = ((64 * n + m : Nat) : Int) := by
  have e : shlI .i64 (n : Int) 6 = ((n * 2 ^ 6 : Nat) : Int) := by
    show w64 ((n : Int) * 2 ^ 6) = _
    rw [w64_id (by omega) (by omega)]; omega
  rw [e, bitI_or _ _ (by omega) (by omega), or_add n m 6 (by omega)]
  omega
theorem bitI_and_u8 : ∀ c : Nat, c < 256 → bitI .and .u8 (c : Int) 63 = ((c % 64 : Nat) : Int) ∧ (decide (bitI .and .u8 (c : Int) 192 = 128) = decide (128 ≤ c ∧ c ≤ 191)) := by
  decide +kernel
end
end Go.Proofs.YtogipciicekmoaaDoor.Vm
namespace Go.Proofs.YtogipciicekmoaaDoor.Vm.Gr
open Go Go.Proofs.YtogipciicekmoaaDoor.Vm
set_option linter.unusedVariables false
set_option maxRecDepth 100000
theorem fuel_gt (n : Nat) (h : n < 1000000000000000) : n < fuel := by unfold fuel; omega
section
variable {z : Nat}
def isF (c : UInt8) : Bool := decide (128 ≤ c.toNat ∧ c.toNat ≤ 191)
theorem isFollower_eq (c : UInt8) : s_runes_isFollower ((c.toNat : Int), ()) = some (isF c, ()) := by
  simp only [s_runes_isFollower, runes_isFollower.p0, runes_isFollower.t0, isF]
  rw [(bitI_and_u8 c.toNat c.toNat_lt).2]
def sgn (n : Int) : Bool := decide (0 ≤ n) && (decide (n < 1114112) && (decide (n < 55296) || decide (57343 < n)))
def enc (n : Nat) : List UInt8 :=
  if n < 128 then [UInt8.ofNat n]
  else if n < 2048 then [UInt8.ofNat (192 + n / 64), UInt8.ofNat (128 + n % 64)]
  else if n < 65536 then [UInt8.ofNat (224 + n / 4096), UInt8.ofNat (128 + n / 64 % 64), UInt8.ofNat (128 + n % 64)]
  else [UInt8.ofNat (240 + n / 262144), UInt8.ofNat (128 + n / 4096 % 64), UInt8.ofNat (128 + n / 64 % 64), UInt8.ofNat (128 + n % 64)]
def n2 (a d : UInt8) : Nat := 64 * (a.toNat - 192) + d.toNat % 64
def n3 (a d e : UInt8) : Nat := 64 * (64 * (a.toNat - 224) + d.toNat % 64) + e.toNat % 64
def n4 (a d e f : UInt8) : Nat := 64 * (64 * (64 * (a.toNat - 240) + d.toNat % 64) + e.toNat % 64) + f.toNat % 64
def no : Int × Int := (-1, 0)
def dec2 (a : UInt8) : List UInt8 → Int × Int
  | d :: _ => if (isF d && decide (128 ≤ n2 a d)) = true then ((n2 a d : Int), 2) else no
  | _ => no
def dec3 (a : UInt8) : List UInt8 → Int × Int
  | d :: e :: _ => if (isF d && isF e && decide (2048 ≤ n3 a d e) && sgn (n3 a d e)) = true then ((n3 a d e : Int), 3) else no
  | _ => no
def dec4 (a : UInt8) : List UInt8 → Int × Int
  | d :: e :: f :: _ => if (isF d && isF e && isF f && decide (65536 ≤ n4 a d e f) && sgn (n4 a d e f)) = true then ((n4 a d e f : Int), 4) else no
  | _ => no
def dec : List UInt8 → Int × Int
  | [] => no
  | a :: r => if a.toNat < 128 then ((a.toNat : Int), 1) else if a.toNat < 192 then no else if a.toNat < 224 then dec2 a r else if a.toNat < 240 then dec3 a r else if a.toNat < 248 then dec4 a r else no
theorem isSign_eq (n : Int) : s_runes_isSign (n, ()) = some (sgn n, ()) := by
  simp only [s_runes_isSign, runes_isSign.p0, runes_isSign.t0, iteB_dec, sgn]
  by_cases h0 : 0 ≤ n <;> by_cases h1 : n < 1114112 <;> by_cases h2 : n < 55296 <;> simp [h0, h1, h2]
theorem rsign_eq (n : Int) : s_ref01_Sign (n, ()) = some (sgn n, ()) := by
  simp only [s_ref01_Sign, ref01_Sign.p0, ref01_Sign.t0, iteB_dec, sgn, notB_eq]
  by_cases h0 : 0 ≤ n <;> by_cases h1 : n < 1114112 <;> rcases Int.lt_or_le n 55296 with h2 | h2 <;> rcases Int.lt_or_le 57343 n with h3 | h3 <;> simp [h0, h1, h2, h3, Int.not_le.2, Int.not_lt.2] <;> omega
theorem byteAt0 (a : UInt8) (r : List UInt8) : byteAt (a :: r) 0 = (a.toNat : Int) := rfl
theorem shapeOf_eq (c : UInt8) : s_runes_shapeOf ((c.toNat : Int), ()) = some ((if c.toNat < 128 then (1, 0, 0) else if c.toNat < 192 then (0, 0, 0) else if c.toNat < 224 then (2, 192, 128) else if c.toNat < 240 then (3, 224, 2048) else if c.toNat < 248 then (4, 240, 65536) else (0, 0, 0)), ()) := by
  have hc := c.toNat_lt
  simp only [s_runes_shapeOf, runes_shapeOf.p0, runes_shapeOf.t0, runes_shapeOf.p1, runes_shapeOf.t1, runes_shapeOf.p2, runes_shapeOf.t2, runes_shapeOf.p3, runes_shapeOf.t3, runes_shapeOf.p4, runes_shapeOf.t4, iteB_dec, iteB_false]
  generalize c.toNat = x at *
  by_cases h1 : x < 128
  · rw [if_pos (by omega), if_pos h1]
  rw [if_neg (by omega), if_neg h1]
  by_cases h2 : x < 192
  · rw [if_neg (by omega), if_neg (by omega), if_neg (by omega), if_pos h2]
  rw [if_pos (by omega), if_neg h2]
  by_cases h3 : x < 224
  · rw [if_pos (by omega), if_pos h3]
  rw [if_neg (by omega), if_pos (by omega), if_neg h3]
  by_cases h4 : x < 240
  · rw [if_pos (by omega), if_pos h4]
  rw [if_neg (by omega), if_pos (by omega), if_neg h4]
  by_cases h5 : x < 248
  · rw [if_pos (by omega), if_pos h5]
  rw [if_neg (by omega), if_neg h5]
theorem p3_step (k m : Nat) (s : List UInt8) (x : Int) (i : Nat) (n : Nat) (hd le : Int) (hi : i < n) (hn : n ≤ 10) (hs : i < s.length) (h0 : 0 ≤ x) (h1 : x < 70368744177664) :
    runes_First.p3 k (m + 1) s x i (n, hd, le) = if isF (s.getD i 0) = true then runes_First.p3 k m s (64 * x + ((s.getD i 0).toNat % 64 : Nat)) (i + 1 : Nat) (n, hd, le) else some ((-1, 0), ()) := by
  obtain ⟨z, rfl⟩ : ∃ z : Nat, x = z := ⟨x.toNat, by omega⟩
  show runes_First.t3 (runes_First.p3 k m) (runes_First.p4 k) s z i (n, hd, le) = _
  simp only [runes_First.t3, iteB_dec]
  rw [if_pos (by omega), withinR_nat hs]
  show bindR (s_runes_isFollower (((s.getD i 0).toNat : Int), ())) _ = _
  rw [isFollower_eq, bindR_val]
  have hb := (s.getD i 0).toNat_lt
  cases hF : isF (s.getD i 0) with
  | false => rfl
  | true =>
    simp only [notB_true, iteB_false, if_true, withinR_nat hs]
    rw [w64_id (n := (i : Int) + 1) (by omega) (by omega)]
    have e : w64 (bitI .and .u8 (byteAt s i) 63) = (((s.getD i 0).toNat % 64 : Nat) : Int) := by
      show w64 (bitI .and .u8 ((s.getD i 0).toNat : Int) 63) = _
      rw [(bitI_and_u8 _ hb).1, w64_nat (by omega)]
    rw [e, bitI_shl_or z _ (by omega) (by omega)]
    congr 1
theorem p3_end (k m : Nat) (s : List UInt8) (x : Int) (n : Nat) (hd le : Int) :
    runes_First.p3 k (m + 1) s x n (n, hd, le) = some ((if le ≤ x ∧ sgn x = true then (x, (n : Int)) else no), ()) := by
  show runes_First.t3 (runes_First.p3 k m) (runes_First.p4 k) s x n (n, hd, le) = _
  simp only [runes_First.t3, iteB_dec]
  rw [if_neg (by omega)]
  simp only [runes_First.p4, runes_First.t4, runes_First.p5, runes_First.t5, runes_First.p6, runes_First.t6, iteB_dec, isSign_eq, bindR_val, iteB_true, notB_eq]
  by_cases h : x < le
  · rw [if_pos h, if_neg (by omega)]; rfl
  · rw [if_neg h]
    cases hs : sgn x with
    | true => rw [if_pos ⟨by omega, rfl⟩]; rfl
    | false => rw [if_neg (by simp)]; rfl
theorem fuel10 : ∃ z, fuel = z + 10 := ⟨4611686018427387894, rfl⟩
theorem first_gen (s : List UInt8) : runes_First.t0 (runes_First.p1 (z + 10)) (s, ()) = some (dec s, ()) := by
  cases s with
  | nil => rfl
  | cons a r =>
    have ha := a.toNat_lt
    simp only [runes_First.t0, iteB_dec]
    rw [if_neg (by simp), withinR_zero (by simp), byteAt0, shapeOf_eq, bindR_val]
    simp only [dec]
    by_cases h1 : a.toNat < 128
    · rw [if_pos h1, if_pos h1]
      simp only [runes_First.p1, runes_First.t1, iteB_dec, runes_First.p2, runes_First.t2]
      rw [if_neg (by decide), if_neg (by simp; omega), withinR_zero (by simp), byteAt0, w64_id (n := (a.toNat : Int)) (by omega) (by omega), w64_id (by omega) (by omega)]
      rw [show ((1 : Int), (0 : Int), (0 : Int)) = (((1 : Nat) : Int), 0, 0) from rfl, show (1 : Int) = ((1 : Nat) : Int) from rfl, p3_end (z + 10) (z + 9)]
      have : sgn ((a.toNat : Int) - 0) = true := by simp [sgn]; omega
      rw [if_pos ⟨by omega, this⟩]; simp
    rw [if_neg h1, if_neg h1]
    by_cases h2 : a.toNat < 192
    · rw [if_pos h2, if_pos h2]; rfl
    rw [if_neg h2, if_neg h2]
    by_cases h3 : a.toNat < 224
    · rw [if_pos h3, if_pos h3]
      simp only [runes_First.p1, runes_First.t1, iteB_dec, runes_First.p2, runes_First.t2]
      rw [if_neg (by decide)]
      cases r with
      | nil => rfl
      | cons d r =>
        rw [if_neg (by simp; omega), withinR_zero (by simp), byteAt0, w64_id (n := (a.toNat : Int)) (by omega) (by omega), w64_id (by omega) (by omega)]
        rw [show ((2 : Int), (192 : Int), (128 : Int)) = (((2 : Nat) : Int), 192, 128) from rfl, show (1 : Int) = ((1 : Nat) : Int) from rfl, p3_step (z + 10) (z + 9) _ _ 1 2 _ _ (by omega) (by omega) (by simp) (by omega) (by omega)]
        simp only [List.getD_cons_succ, List.getD_cons_zero, dec2]
        cases hF : isF d with
        | false => rfl
        | true =>
          rw [if_pos rfl, p3_end (z + 10) (z + 8)]
          have e : 64 * ((a.toNat : Int) - 192) + ((d.toNat % 64 : Nat) : Int) = (n2 a d : Nat) := by simp only [n2]; omega
          have hn : n2 a d < 2048 := by simp only [n2]; omega
          have hs : sgn (n2 a d : Nat) = true := by
            simp only [sgn, Bool.and_eq_true, Bool.or_eq_true, decide_eq_true_eq]; omega
          rw [e, hs]
          by_cases hl : 128 ≤ n2 a d
          · rw [if_pos ⟨by omega, rfl⟩, if_pos (by simp [hl])]; rfl
          · rw [if_neg (fun h => by have := h.1; omega), if_neg (by simp [hl])]
    rw [if_neg h3, if_neg h3]
    by_cases h4 : a.toNat < 240
    · rw [if_pos h4, if_pos h4]
      simp only [runes_First.p1, runes_First.t1, iteB_dec, runes_First.p2, runes_First.t2]
      rw [if_neg (by decide)]
      match r with
      | [] => rfl
      | [d] => rfl
      | d :: e :: r =>
        rw [if_neg (by simp; omega), withinR_zero (by simp), byteAt0, w64_id (n := (a.toNat : Int)) (by omega) (by omega), w64_id (by omega) (by omega)]
        rw [show ((3 : Int), (224 : Int), (2048 : Int)) = (((3 : Nat) : Int), 224, 2048) from rfl, show (1 : Int) = ((1 : Nat) : Int) from rfl, p3_step (z + 10) (z + 9) _ _ 1 3 _ _ (by omega) (by omega) (by simp) (by omega) (by omega)]
        simp only [List.getD_cons_succ, List.getD_cons_zero, dec3]
        cases hF : isF d with
        | false => rfl
        | true =>
          rw [if_pos rfl, p3_step (z + 10) (z + 8) _ _ 2 3 _ _ (by omega) (by omega) (by simp) (by omega) (by omega)]
          simp only [List.getD_cons_succ, List.getD_cons_zero]
          cases hE : isF e with
          | false => rfl
          | true =>
            rw [if_pos rfl, p3_end (z + 10) (z + 7)]
            have e1 : 64 * (64 * ((a.toNat : Int) - 224) + ((d.toNat % 64 : Nat) : Int)) + ((e.toNat % 64 : Nat) : Int) = (n3 a d e : Nat) := by simp only [n3]; omega
            rw [e1]
            by_cases hl : 2048 ≤ n3 a d e <;> cases hs : sgn (n3 a d e : Nat) <;> simp [hl] <;> omega
    rw [if_neg h4, if_neg h4]
    by_cases h5 : a.toNat < 248
    · rw [if_pos h5, if_pos h5]
      simp only [runes_First.p1, runes_First.t1, iteB_dec, runes_First.p2, runes_First.t2]
      rw [if_neg (by decide)]
      match r with
      | [] => rfl
      | [d] => rfl
      | [d, e] => rfl
      | d :: e :: f :: r =>
        rw [if_neg (by simp; omega), withinR_zero (by simp), byteAt0, w64_id (n := (a.toNat : Int)) (by omega) (by omega), w64_id (by omega) (by omega)]
        rw [show ((4 : Int), (240 : Int), (65536 : Int)) = (((4 : Nat) : Int), 240, 65536) from rfl, show (1 : Int) = ((1 : Nat) : Int) from rfl, p3_step (z + 10) (z + 9) _ _ 1 4 _ _ (by omega) (by omega) (by simp) (by omega) (by omega)]
        simp only [List.getD_cons_succ, List.getD_cons_zero, dec4]
        cases hF : isF d with
        | false => rfl
        | true =>
          rw [if_pos rfl, p3_step (z + 10) (z + 8) _ _ 2 4 _ _ (by omega) (by omega) (by simp) (by omega) (by omega)]
          simp only [List.getD_cons_succ, List.getD_cons_zero]
          cases hE : isF e with
          | false => rfl
          | true =>
            rw [if_pos rfl, p3_step (z + 10) (z + 7) _ _ 3 4 _ _ (by omega) (by omega) (by simp) (by omega) (by omega)]
            simp only [List.getD_cons_succ, List.getD_cons_zero]
            cases hG : isF f with
            | false => rfl
            | true =>
              rw [if_pos rfl, p3_end (z + 10) (z + 6)]
              have e1 : 64 * (64 * (64 * ((a.toNat : Int) - 240) + ((d.toNat % 64 : Nat) : Int)) + ((e.toNat % 64 : Nat) : Int)) + ((f.toNat % 64 : Nat) : Int) = (n4 a d e f : Nat) := by simp only [n4]; omega
              rw [e1]
              by_cases hl : 65536 ≤ n4 a d e f <;> cases hs : sgn (n4 a d e f : Nat) <;> simp [hl] <;> omega
    rw [if_neg h5, if_neg h5]; rfl
theorem sgn_nat {n : Int} (h : sgn n = true) : ∃ m : Nat, n = m ∧ m < 1114112 ∧ (m < 55296 ∨ 57343 < m) := by
  simp only [sgn, Bool.and_eq_true, Bool.or_eq_true, decide_eq_true_eq] at h
  exact ⟨n.toNat, by omega, by omega, by omega⟩
theorem w8_nat {n : Nat} (h : n < 256) : w8 (n : Int) = n := w8_id (by omega) (by omega)
theorem rbytes_eq (n : Int) : s_ref01_Bytes (n, ()) = some (if sgn n = true then enc n.toNat else [], ()) := by
  show ref01_Bytes.t0 (n, ()) = _
  simp only [ref01_Bytes.t0, rsign_eq, bindR_val]
  cases hs : sgn n with
  | false => rfl
  | true =>
    obtain ⟨m, rfl, h1, h2⟩ := sgn_nat hs
    simp only [notB_true, iteB_false, iteB_dec, if_true, Int.toNat_natCast, enc]
    have a1 : w64 (Int.tdiv (m : Int) 64) = ((m / 64 : Nat) : Int) := w64_nat (n := m / 64) (by omega)
    have a2 : w64 (Int.tdiv (m : Int) 4096) = ((m / 4096 : Nat) : Int) := w64_nat (n := m / 4096) (by omega)
    have a3 : w64 (Int.tdiv (m : Int) 262144) = ((m / 262144 : Nat) : Int) := w64_nat (n := m / 262144) (by omega)
    have b1 : ∀ x : Nat, Int.tmod (x : Int) 64 = ((x % 64 : Nat) : Int) := fun x => rfl
    have c : ∀ (x y : Nat), x + y < 256 → w8 (w64 ((x : Int) + (y : Int))) = ((x + y : Nat) : Int) := fun x y h => by
      rw [w64_id (by omega) (by omega), w8_id (by omega) (by omega)]; omega
    have c192 := fun y => c 192 y
    have c128 := fun y => c 128 y
    have c224 := fun y => c 224 y
    have c240 := fun y => c 240 y
    simp only [Int.cast_ofNat_Int] at c192 c128 c224 c240
    by_cases d1 : m < 128
    · rw [if_pos (by omega), if_pos d1, w8_nat (by omega)]; rfl
    rw [if_neg (by omega), if_neg d1]
    by_cases d2 : m < 2048
    · rw [if_pos (by omega), if_pos d2, a1, b1, c192 _ (by omega), c128 _ (by omega)]; rfl
    rw [if_neg (by omega), if_neg d2]
    by_cases d3 : m < 65536
    · rw [if_pos (by omega), if_pos d3, a1, a2, b1, b1, c224 _ (by omega), c128 _ (by omega), c128 _ (by omega)]; rfl
    rw [if_neg (by omega), if_neg d3, a1, a2, a3, b1, b1, b1, c240 _ (by omega), c128 _ (by omega), c128 _ (by omega), c128 _ (by omega)]
    rfl
theorem toNat_ofNat (n : Nat) (h : n < 256) : (UInt8.ofNat n).toNat = n := by
  rw [UInt8.toNat_ofNat']; omega
theorem isF_ofNat (n : Nat) (h : n < 64) : isF (UInt8.ofNat (128 + n)) = true := by
  unfold isF; rw [toNat_ofNat _ (by omega)]; simp; omega
theorem sgn_of (m : Nat) (h1 : m < 1114112) (h2 : m < 55296 ∨ 57343 < m) : sgn m = true := by
  simp only [sgn, Bool.and_eq_true, Bool.or_eq_true, decide_eq_true_eq]; omega
theorem dec_enc (m : Nat) (h1 : m < 1114112) (h2 : m < 55296 ∨ 57343 < m) (s : List UInt8) : dec (enc m ++ s) = ((m : Int), ((enc m).length : Int)) := by
  unfold enc
  by_cases d1 : m < 128
  · rw [if_pos d1]
    simp only [List.cons_append, List.nil_append, dec, toNat_ofNat m (by omega)]
    rw [if_pos d1]; rfl
  rw [if_neg d1]
  by_cases d2 : m < 2048
  · rw [if_pos d2]
    simp only [List.cons_append, List.nil_append, dec, toNat_ofNat (192 + m / 64) (by omega), dec2, isF_ofNat _ (Nat.mod_lt m (by omega : 0 < 64))]
    have e : n2 (UInt8.ofNat (192 + m / 64)) (UInt8.ofNat (128 + m % 64)) = m := by
      unfold n2; rw [toNat_ofNat _ (by omega), toNat_ofNat _ (by omega)]; omega
    rw [if_neg (by omega), if_neg (by omega), if_pos (by omega), e, if_pos (by simp; omega)]; rfl
  rw [if_neg d2]
  by_cases d3 : m < 65536
  · rw [if_pos d3]
    simp only [List.cons_append, List.nil_append, dec, toNat_ofNat (224 + m / 4096) (by omega), dec3, isF_ofNat _ (Nat.mod_lt m (by omega : 0 < 64)), isF_ofNat _ (Nat.mod_lt (m / 64) (by omega : 0 < 64))]
    have e : n3 (UInt8.ofNat (224 + m / 4096)) (UInt8.ofNat (128 + m / 64 % 64)) (UInt8.ofNat (128 + m % 64)) = m := by
      unfold n3; rw [toNat_ofNat _ (by omega), toNat_ofNat _ (by omega), toNat_ofNat _ (by omega)]; omega
    rw [if_neg (by omega), if_neg (by omega), if_neg (by omega), if_pos (by omega), e, if_pos (by simp [sgn_of m h1 h2]; omega)]; rfl
  rw [if_neg d3]
  simp only [List.cons_append, List.nil_append, dec, toNat_ofNat (240 + m / 262144) (by omega), dec4, isF_ofNat _ (Nat.mod_lt m (by omega : 0 < 64)), isF_ofNat _ (Nat.mod_lt (m / 64) (by omega : 0 < 64)), isF_ofNat _ (Nat.mod_lt (m / 4096) (by omega : 0 < 64))]
  have e : n4 (UInt8.ofNat (240 + m / 262144)) (UInt8.ofNat (128 + m / 4096 % 64)) (UInt8.ofNat (128 + m / 64 % 64)) (UInt8.ofNat (128 + m % 64)) = m := by
    unfold n4; rw [toNat_ofNat _ (by omega), toNat_ofNat _ (by omega), toNat_ofNat _ (by omega), toNat_ofNat _ (by omega)]; omega
  rw [if_neg (by omega), if_neg (by omega), if_neg (by omega), if_neg (by omega), if_pos (by omega), e, if_pos (by simp [sgn_of m h1 h2]; omega)]; rfl
theorem ext8 {a b : UInt8} (h : a.toNat = b.toNat) : a = b := UInt8.toNat_inj.1 h
theorem isF_iff {d : UInt8} : isF d = true ↔ 128 ≤ d.toNat ∧ d.toNat ≤ 191 := by unfold isF; simp
theorem dec_spec (s : List UInt8) : (dec s = no) ∨ ∃ (m : Nat) (r : List UInt8), dec s = ((m : Int), ((enc m).length : Int)) ∧ s = enc m ++ r ∧ m < 1114112 ∧ (m < 55296 ∨ 57343 < m) := by
  cases s with
  | nil => exact .inl rfl
  | cons a r =>
    have ha := a.toNat_lt
    simp only [dec]
    by_cases h1 : a.toNat < 128
    · rw [if_pos h1]
      refine .inr ⟨a.toNat, r, ?_, ?_, by omega, by omega⟩
      · simp [enc, h1]
      · simp [enc, h1]
    rw [if_neg h1]
    by_cases h2 : a.toNat < 192
    · rw [if_pos h2]; exact .inl rfl
    rw [if_neg h2]
    by_cases h3 : a.toNat < 224
    · rw [if_pos h3]
      cases r with
      | nil => exact .inl rfl
      | cons d r =>
        simp only [dec2]
        by_cases hc : (isF d && decide (128 ≤ n2 a d)) = true
        · rw [if_pos hc]
          simp only [Bool.and_eq_true, decide_eq_true_eq, isF_iff] at hc
          obtain ⟨hd, hl⟩ := hc
          have hn : n2 a d < 2048 := by unfold n2; omega
          have e : enc (n2 a d) = [a, d] := by
            unfold enc
            rw [if_neg (by omega), if_pos hn]
            have k1 : UInt8.ofNat (192 + n2 a d / 64) = a := ext8 (by rw [toNat_ofNat _ (by omega)]; unfold n2; omega)
            have k2 : UInt8.ofNat (128 + n2 a d % 64) = d := ext8 (by rw [toNat_ofNat _ (by omega)]; unfold n2; omega)
            rw [k1, k2]
          exact .inr ⟨n2 a d, r, by rw [e]; rfl, by rw [e]; rfl, by omega, by omega⟩
        · rw [if_neg hc]; exact .inl rfl
    rw [if_neg h3]
    by_cases h4 : a.toNat < 240
    · rw [if_pos h4]
      match r with
      | [] => exact .inl rfl
      | [d] => exact .inl rfl
      | d :: e :: r =>
        simp only [dec3]
        by_cases hc : (isF d && isF e && decide (2048 ≤ n3 a d e) && sgn (n3 a d e)) = true
        · rw [if_pos hc]
          simp only [Bool.and_eq_true, decide_eq_true_eq, isF_iff] at hc
          obtain ⟨⟨⟨hd, he⟩, hl⟩, hs⟩ := hc
          obtain ⟨m, hm, g1, g2⟩ := sgn_nat hs
          obtain rfl : n3 a d e = m := by omega
          have hn : n3 a d e < 65536 := by unfold n3; omega
          have en : enc (n3 a d e) = [a, d, e] := by
            unfold enc
            rw [if_neg (by omega), if_neg (by omega), if_pos hn]
            have k1 : UInt8.ofNat (224 + n3 a d e / 4096) = a := ext8 (by rw [toNat_ofNat _ (by omega)]; unfold n3; omega)
            have k2 : UInt8.ofNat (128 + n3 a d e / 64 % 64) = d := ext8 (by rw [toNat_ofNat _ (by omega)]; unfold n3; omega)
            have k3 : UInt8.ofNat (128 + n3 a d e % 64) = e := ext8 (by rw [toNat_ofNat _ (by omega)]; unfold n3; omega)
            rw [k1, k2, k3]
          exact .inr ⟨n3 a d e, r, by rw [en]; rfl, by rw [en]; rfl, g1, g2⟩
        · rw [if_neg hc]; exact .inl rfl
    rw [if_neg h4]
    by_cases h5 : a.toNat < 248
    · rw [if_pos h5]
      match r with
      | [] => exact .inl rfl
      | [d] => exact .inl rfl
      | [d, e] => exact .inl rfl
      | d :: e :: f :: r =>
        simp only [dec4]
        by_cases hc : (isF d && isF e && isF f && decide (65536 ≤ n4 a d e f) && sgn (n4 a d e f)) = true
        · rw [if_pos hc]
          simp only [Bool.and_eq_true, decide_eq_true_eq, isF_iff] at hc
          obtain ⟨⟨⟨⟨hd, he⟩, hf⟩, hl⟩, hs⟩ := hc
          obtain ⟨m, hm, g1, g2⟩ := sgn_nat hs
          obtain rfl : n4 a d e f = m := by omega
          have en : enc (n4 a d e f) = [a, d, e, f] := by
            unfold enc
            rw [if_neg (by omega), if_neg (by omega), if_neg (by omega)]
            have k1 : UInt8.ofNat (240 + n4 a d e f / 262144) = a := ext8 (by rw [toNat_ofNat _ (by omega)]; unfold n4; omega)
            have k2 : UInt8.ofNat (128 + n4 a d e f / 4096 % 64) = d := ext8 (by rw [toNat_ofNat _ (by omega)]; unfold n4; omega)
            have k3 : UInt8.ofNat (128 + n4 a d e f / 64 % 64) = e := ext8 (by rw [toNat_ofNat _ (by omega)]; unfold n4; omega)
            have k4 : UInt8.ofNat (128 + n4 a d e f % 64) = f := ext8 (by rw [toNat_ofNat _ (by omega)]; unfold n4; omega)
            rw [k1, k2, k3, k4]
          exact .inr ⟨n4 a d e f, r, by rw [en]; rfl, by rw [en]; rfl, g1, g2⟩
        · rw [if_neg hc]; exact .inl rfl
    rw [if_neg h5]; exact .inl rfl
theorem enc_len (m : Nat) : 1 ≤ (enc m).length ∧ (enc m).length ≤ 4 := by
  unfold enc; split <;> (try split) <;> (try split) <;> simp
def b0 (s : List UInt8) (i : Nat) : Int := ((s.getD i 0).toNat : Int)
theorem b0_range (s : List UInt8) (i : Nat) : 0 ≤ b0 s i ∧ b0 s i < 256 := by
  have := (s.getD i 0).toNat_lt; unfold b0; omega
def cond (s : List UInt8) (k : Nat) (n f : Int) : Prop := 0 ≤ f ∧ sgn n = true ∧ enc n.toNat = s.take k
instance (s : List UInt8) (k : Nat) (n f : Int) : Decidable (cond s k n f) := inferInstanceAs (Decidable (_ ∧ _ ∧ _))
theorem rp6 (k : Nat) (a1 : ref01_First.T1) (s : List UInt8) (x4 : Nat) (x5 x8 : Int) (h : x4 ≤ s.length) (h4 : x4 < 10) :
    ref01_First.p7 k a1 s x4 x5 x8 = if cond s x4 x5 x8 then some ((x5, (x4 : Int)), ()) else a1 s (x4 + 1 : Nat) := by
  have e9 : ref01_First.p10 k a1 s x4 = a1 s (x4 + 1 : Nat) := by
    show a1 s (w64 ((x4 : Int) + 1)) = _
    rw [w64_id (by omega) (by omega)]; rfl
  show ref01_First.t7 (ref01_First.p9 k a1) s x4 x5 x8 = _
  have e8 : ∀ b, ref01_First.p9 k a1 s x4 x5 b = if b = true then some ((x5, (x4 : Int)), ()) else a1 s (x4 + 1 : Nat) := fun b => by
    show iteB b (some ((x5, (x4 : Int)), ())) (ref01_First.p10 k a1 s x4) = _
    rw [e9, iteB_eq]
  simp only [ref01_First.t7, rsign_eq, bindR_val, iteB_dec, rbytes_eq, e8, cond]
  by_cases h0 : 0 ≤ x8
  · rw [if_pos h0]
    by_cases hs : sgn x5 = true
    · rw [iteB_pos hs, mustR_dec (by omega), mustR_dec (by omega)]
      simp only [hs, if_true, Int.toNat_natCast, List.drop_zero, decide_eq_true_eq, true_and, h0]
    · rw [iteB_neg (by simpa using hs)]; simp [hs]
  · rw [if_neg h0]; simp [h0]
theorem rp7_step (k m : Nat) (a1 : ref01_First.T1) (s : List UInt8) (x4 : Nat) (x5 x8 : Int) (i : Nat) (hi : i < x4) (h4 : x4 < 10) (hs : x4 ≤ s.length) (h0 : -1000000000 ≤ x5) (h1 : x5 ≤ 1000000000) :
    ref01_First.p8 k a1 (m + 1) s x4 x5 x8 i = ref01_First.p8 k a1 m s x4 (64 * x5 + b0 s i % 64) x8 (i + 1 : Nat) := by
  have hb := b0_range s i
  show ref01_First.t8 (ref01_First.p8 k a1 m) (ref01_First.p7 k a1) s x4 x5 x8 i = _
  simp only [ref01_First.t8, iteB_dec]
  rw [if_pos (by omega), withinR_nat (by omega)]
  have e : Int.tmod (byteAt s i) 64 = b0 s i % 64 := rfl
  rw [e, w64_id (n := b0 s i % 64) (by omega) (by omega), w64_id (n := 64 * x5) (by omega) (by omega), w64_id (by omega) (by omega), w64_id (by omega) (by omega)]; rfl
theorem rp7_end (k m : Nat) (a1 : ref01_First.T1) (s : List UInt8) (x4 : Nat) (x5 x8 : Int) : ref01_First.p8 k a1 (m + 1) s x4 x5 x8 x4 = ref01_First.p7 k a1 s x4 x5 x8 := by
  show ref01_First.t8 (ref01_First.p8 k a1 m) (ref01_First.p7 k a1) s x4 x5 x8 x4 = _
  simp only [ref01_First.t8, iteB_dec]
  rw [if_neg (by omega)]
theorem rp4 (k : Nat) (a1 : ref01_First.T1) (s : List UInt8) (x4 : Nat) (h4 : x4 < 10) (hs : x4 ≤ s.length) : ∀ (m i : Nat) (x5 : Int), x4 < m + i → i ≤ x4 → ref01_First.p5 k a1 m s x4 x5 i = ref01_First.p6 k a1 s x4
  | 0, i, x5, h, hi => by omega
  | m + 1, i, x5, h, hi => by
    show ref01_First.t5 (ref01_First.p5 k a1 m) (ref01_First.p6 k a1) s x4 x5 i = _
    simp only [ref01_First.t5, iteB_dec]
    by_cases hlt : i < x4
    · rw [if_pos (by omega), withinR_nat (by omega), w64_id (n := (i : Int) + 1) (by omega) (by omega)]
      exact rp4 k a1 s x4 h4 hs m (i + 1) _ (by omega) (by omega)
    · rw [if_neg (by omega)]
def v1 (s : List UInt8) : Int := b0 s 0
def v2 (s : List UInt8) : Int := 64 * (b0 s 0 - 192) + b0 s 1 % 64
def v3 (s : List UInt8) : Int := 64 * (64 * (b0 s 0 - 224) + b0 s 1 % 64) + b0 s 2 % 64
def v4 (s : List UInt8) : Int := 64 * (64 * (64 * (b0 s 0 - 240) + b0 s 1 % 64) + b0 s 2 % 64) + b0 s 3 % 64
theorem rp5_pre (s : List UInt8) : w64 (byteAt s 0) = b0 s 0 := w64_byte s 0
theorem rp5_1 (a1 : ref01_First.T1) (s : List UInt8) (h : 1 ≤ s.length) : ref01_First.p6 (z + 10) a1 s 1 = if cond s 1 (v1 s) (b0 s 0) then some ((v1 s, 1), ()) else a1 s 2 := by
  have hb := b0_range s 0
  show ref01_First.t6 (ref01_First.p7 (z + 10) a1) (ref01_First.p8 (z + 10) a1 (z + 10)) s 1 = _
  simp only [ref01_First.t6, iteB_dec]
  rw [withinR_pos (by omega) (by decide), withinR_zero (by omega), if_pos trivial, withinR_zero (by omega), rp5_pre]
  show ref01_First.p7 (z + 10) a1 s (1 : Nat) (b0 s 0) (w64 (b0 s 0 - 0)) = _
  rw [w64_id (by omega) (by omega)]
  exact (rp6 (z + 10) a1 s 1 (v1 s) (b0 s 0 - 0) h (by omega)).trans (by simp)
theorem rp5_2 (a1 : ref01_First.T1) (s : List UInt8) (h : 2 ≤ s.length) : ref01_First.p6 (z + 10) a1 s 2 = if cond s 2 (v2 s) (b0 s 0 - 192) then some ((v2 s, 2), ()) else a1 s 3 := by
  have hb := b0_range s 0
  have hb1 := b0_range s 1
  show ref01_First.t6 (ref01_First.p7 (z + 10) a1) (ref01_First.p8 (z + 10) a1 (z + 10)) s 2 = _
  simp only [ref01_First.t6, iteB_dec]
  rw [withinR_pos (by omega) (by decide), withinR_zero (by omega), if_neg (by omega), rp5_pre]
  show ref01_First.p8 (z + 10) a1 (z + 10) s (2 : Nat) (w64 (b0 s 0 - 192)) (w64 (b0 s 0 - 192)) (1 : Nat) = _
  rw [w64_id (by omega) (by omega), rp7_step (z + 10) (z + 9) a1 s 2 _ _ 1 (by omega) (by omega) h (by omega) (by omega), rp7_end (z + 10) (z + 8)]
  exact rp6 (z + 10) a1 s 2 (v2 s) (b0 s 0 - 192) h (by omega)
theorem rp5_3 (a1 : ref01_First.T1) (s : List UInt8) (h : 3 ≤ s.length) : ref01_First.p6 (z + 10) a1 s 3 = if cond s 3 (v3 s) (b0 s 0 - 224) then some ((v3 s, 3), ()) else a1 s 4 := by
  have hb := b0_range s 0
  have hb1 := b0_range s 1
  have hb2 := b0_range s 2
  show ref01_First.t6 (ref01_First.p7 (z + 10) a1) (ref01_First.p8 (z + 10) a1 (z + 10)) s 3 = _
  simp only [ref01_First.t6, iteB_dec]
  rw [withinR_pos (by omega) (by decide), withinR_zero (by omega), if_neg (by omega), rp5_pre]
  show ref01_First.p8 (z + 10) a1 (z + 10) s (3 : Nat) (w64 (b0 s 0 - 224)) (w64 (b0 s 0 - 224)) (1 : Nat) = _
  rw [w64_id (by omega) (by omega), rp7_step (z + 10) (z + 9) a1 s 3 _ _ 1 (by omega) (by omega) h (by omega) (by omega), rp7_step (z + 10) (z + 8) a1 s 3 _ _ 2 (by omega) (by omega) h (by omega) (by omega), rp7_end (z + 10) (z + 7)]
  exact rp6 (z + 10) a1 s 3 (v3 s) (b0 s 0 - 224) h (by omega)
theorem rp5_4 (a1 : ref01_First.T1) (s : List UInt8) (h : 4 ≤ s.length) : ref01_First.p6 (z + 10) a1 s 4 = if cond s 4 (v4 s) (b0 s 0 - 240) then some ((v4 s, 4), ()) else a1 s 5 := by
  have hb := b0_range s 0
  have hb1 := b0_range s 1
  have hb2 := b0_range s 2
  have hb3 := b0_range s 3
  show ref01_First.t6 (ref01_First.p7 (z + 10) a1) (ref01_First.p8 (z + 10) a1 (z + 10)) s 4 = _
  simp only [ref01_First.t6, iteB_dec]
  rw [withinR_pos (by omega) (by decide), withinR_zero (by omega), if_neg (by omega), rp5_pre]
  show ref01_First.p8 (z + 10) a1 (z + 10) s (4 : Nat) (w64 (b0 s 0 - 240)) (w64 (b0 s 0 - 240)) (1 : Nat) = _
  rw [w64_id (by omega) (by omega), rp7_step (z + 10) (z + 9) a1 s 4 _ _ 1 (by omega) (by omega) h (by omega) (by omega), rp7_step (z + 10) (z + 8) a1 s 4 _ _ 2 (by omega) (by omega) h (by omega) (by omega), rp7_step (z + 10) (z + 7) a1 s 4 _ _ 3 (by omega) (by omega) h (by omega) (by omega), rp7_end (z + 10) (z + 6)]
  exact rp6 (z + 10) a1 s 4 (v4 s) (b0 s 0 - 240) h (by omega)
theorem rp1 (m : Nat) (s : List UInt8) (x4 : Nat) (h : 1 ≤ x4) : ref01_First.p1 (z + 10) (m + 1) s x4 = if x4 ≤ 4 ∧ x4 ≤ s.length then ref01_First.p6 (z + 10) (ref01_First.p1 (z + 10) m) s x4 else some (no, ()) := by
  have e2 : ∀ b, ref01_First.p2 (z + 10) (ref01_First.p1 (z + 10) m) s x4 b = iteB b (ref01_First.p5 (z + 10) (ref01_First.p1 (z + 10) m) (z + 10) s x4 0 0) (some (no, ())) := fun b => rfl
  have e1 : ref01_First.p1 (z + 10) (m + 1) s x4 = iteB (decide ((x4 : Int) ≤ 4)) (ref01_First.p2 (z + 10) (ref01_First.p1 (z + 10) m) s x4 (decide ((x4 : Int) ≤ ((s.length : Nat) : Int)))) (ref01_First.p2 (z + 10) (ref01_First.p1 (z + 10) m) s x4 false) := rfl
  rw [e1, e2, e2, iteB_false, iteB_dec, iteB_dec]
  by_cases h4 : x4 ≤ 4
  · rw [if_pos (by omega)]
    by_cases hs : x4 ≤ s.length
    · rw [if_pos (by omega), if_pos ⟨h4, hs⟩]
      exact rp4 (z + 10) (ref01_First.p1 (z + 10) m) s x4 (by omega) hs (z + 10) 0 0 (by omega) (by omega)
    · rw [if_neg (by omega), if_neg (by omega)]
  · rw [if_neg (by omega), if_neg (by omega)]
theorem cond_dec {s : List UInt8} {k : Nat} {n f : Int} (hk : k ≤ s.length) (h : cond s k n f) : dec s = (n, (k : Int)) := by
  obtain ⟨_, hs, he⟩ := h
  obtain ⟨m, rfl, h1, h2⟩ := sgn_nat hs
  rw [Int.toNat_natCast] at he
  have hl : (enc m).length = k := by rw [he, List.length_take]; omega
  have hsplit : s = enc m ++ s.drop k := by rw [he]; exact (List.take_append_drop k s).symm
  rw [hsplit, dec_enc m h1 h2, hl]
theorem b00 (a : UInt8) (l : List UInt8) : b0 (a :: l) 0 = (a.toNat : Int) := rfl
theorem b01 (a b : UInt8) (l : List UInt8) : b0 (a :: b :: l) 1 = (b.toNat : Int) := rfl
theorem b02 (a b c : UInt8) (l : List UInt8) : b0 (a :: b :: c :: l) 2 = (c.toNat : Int) := rfl
theorem b03 (a b c d : UInt8) (l : List UInt8) : b0 (a :: b :: c :: d :: l) 3 = (d.toNat : Int) := rfl
theorem rfirst_gen (s : List UInt8) : ref01_First.p1 (z + 10) (z + 10) s (1 : Nat) = some (dec s, ()) := by
  have hnot : ∀ {k : Nat} {n f : Int}, k ≤ s.length → 1 ≤ k → dec s = no → ¬ cond s k n f := fun hk h1 hd hc => by
    rw [cond_dec hk hc] at hd
    have := congrArg Prod.snd hd
    simp only [no] at this; omega
  rcases dec_spec s with hd | ⟨m, r, hd, hs, h1, h2⟩
  · rw [hd, rp1 (z + 9) s 1 (by omega)]
    by_cases c1 : 1 ≤ s.length
    · rw [if_pos ⟨by omega, c1⟩]
      rw [show ((1 : Nat) : Int) = 1 from rfl, rp5_1 _ s c1, if_neg (hnot c1 (by omega) hd)]
      rw [show (2 : Int) = ((2 : Nat) : Int) from rfl, rp1 (z + 8) s 2 (by omega)]
      by_cases c2 : 2 ≤ s.length
      · rw [if_pos ⟨by omega, c2⟩, show ((2 : Nat) : Int) = 2 from rfl, rp5_2 _ s c2, if_neg (hnot c2 (by omega) hd)]
        rw [show (3 : Int) = ((3 : Nat) : Int) from rfl, rp1 (z + 7) s 3 (by omega)]
        by_cases c3 : 3 ≤ s.length
        · rw [if_pos ⟨by omega, c3⟩, show ((3 : Nat) : Int) = 3 from rfl, rp5_3 _ s c3, if_neg (hnot c3 (by omega) hd)]
          rw [show (4 : Int) = ((4 : Nat) : Int) from rfl, rp1 (z + 6) s 4 (by omega)]
          by_cases c4 : 4 ≤ s.length
          · rw [if_pos ⟨by omega, c4⟩, show ((4 : Nat) : Int) = 4 from rfl, rp5_4 _ s c4, if_neg (hnot c4 (by omega) hd)]
            rw [show (5 : Int) = ((5 : Nat) : Int) from rfl, rp1 (z + 5) s 5 (by omega), if_neg (by omega)]
          · rw [if_neg (by omega)]
        · rw [if_neg (by omega)]
      · rw [if_neg (by omega)]
    · rw [if_neg (by omega)]
  · have hk := enc_len m
    have hlen : (enc m).length ≤ s.length := by rw [hs, List.length_append]; omega
    have hother : ∀ {k : Nat} {n f : Int}, k ≤ s.length → k ≠ (enc m).length → ¬ cond s k n f := fun hk hne hc => by
      rw [cond_dec hk hc] at hd
      have := congrArg Prod.snd hd
      simp only at this; omega
    have htake : s.take (enc m).length = enc m := by rw [hs]; simp
    have hsg := sgn_of m h1 h2
    rw [hd, rp1 (z + 9) s 1 (by omega), if_pos ⟨by omega, by omega⟩, show ((1 : Nat) : Int) = 1 from rfl, rp5_1 _ s (by omega)]
    by_cases d1 : m < 128
    · have e : enc m = [UInt8.ofNat m] := by simp [enc, d1]
      have ev : v1 s = m := by rw [hs, e]; show b0 (UInt8.ofNat m :: r) 0 = _; rw [b00, toNat_ofNat _ (by omega)]
      rw [e] at htake ⊢
      rw [ev, if_pos ⟨(b0_range s 0).1, hsg, by rw [Int.toNat_natCast, e]; exact htake.symm⟩]; rfl
    have el1 : (enc m).length ≠ 1 := by unfold enc; rw [if_neg d1]; split <;> (try split) <;> simp
    rw [if_neg (hother (by omega) (by omega)), show (2 : Int) = ((2 : Nat) : Int) from rfl, rp1 (z + 8) s 2 (by omega), if_pos ⟨by omega, by omega⟩, show ((2 : Nat) : Int) = 2 from rfl, rp5_2 _ s (by omega)]
    by_cases d2 : m < 2048
    · have e : enc m = [UInt8.ofNat (192 + m / 64), UInt8.ofNat (128 + m % 64)] := by simp [enc, d1, d2]
      have e0 : b0 s 0 = (192 + m / 64 : Nat) := by rw [hs, e]; show b0 (_ :: _) 0 = _; rw [b00, toNat_ofNat _ (by omega)]
      have e1 : b0 s 1 = (128 + m % 64 : Nat) := by rw [hs, e]; show b0 (_ :: _ :: r) 1 = _; rw [b01, toNat_ofNat _ (by omega)]
      have ev : v2 s = m := by unfold v2; rw [e0, e1]; omega
      rw [e] at htake ⊢
      rw [ev, if_pos ⟨by rw [e0]; omega, hsg, by rw [Int.toNat_natCast, e]; exact htake.symm⟩]; rfl
    have el2 : (enc m).length ≠ 2 := by unfold enc; rw [if_neg d1, if_neg d2]; split <;> simp
    rw [if_neg (hother (by omega) (by omega)), show (3 : Int) = ((3 : Nat) : Int) from rfl, rp1 (z + 7) s 3 (by omega), if_pos ⟨by omega, by omega⟩, show ((3 : Nat) : Int) = 3 from rfl, rp5_3 _ s (by omega)]
    by_cases d3 : m < 65536
    · have e : enc m = [UInt8.ofNat (224 + m / 4096), UInt8.ofNat (128 + m / 64 % 64), UInt8.ofNat (128 + m % 64)] := by simp [enc, d1, d2, d3]
      have e0 : b0 s 0 = (224 + m / 4096 : Nat) := by rw [hs, e]; show b0 (_ :: _) 0 = _; rw [b00, toNat_ofNat _ (by omega)]
      have e1 : b0 s 1 = (128 + m / 64 % 64 : Nat) := by rw [hs, e]; show b0 (_ :: _ :: _) 1 = _; rw [b01, toNat_ofNat _ (by omega)]
      have e2 : b0 s 2 = (128 + m % 64 : Nat) := by rw [hs, e]; show b0 (_ :: _ :: _ :: r) 2 = _; rw [b02, toNat_ofNat _ (by omega)]
      have ev : v3 s = m := by unfold v3; rw [e0, e1, e2]; omega
      rw [e] at htake ⊢
      rw [ev, if_pos ⟨by rw [e0]; omega, hsg, by rw [Int.toNat_natCast, e]; exact htake.symm⟩]; rfl
    have el3 : (enc m).length ≠ 3 := by unfold enc; rw [if_neg d1, if_neg d2, if_neg d3]; simp
    rw [if_neg (hother (by omega) (by omega)), show (4 : Int) = ((4 : Nat) : Int) from rfl, rp1 (z + 6) s 4 (by omega), if_pos ⟨by omega, by omega⟩, show ((4 : Nat) : Int) = 4 from rfl, rp5_4 _ s (by omega)]
    have e : enc m = [UInt8.ofNat (240 + m / 262144), UInt8.ofNat (128 + m / 4096 % 64), UInt8.ofNat (128 + m / 64 % 64), UInt8.ofNat (128 + m % 64)] := by simp [enc, d1, d2, d3]
    have e0 : b0 s 0 = (240 + m / 262144 : Nat) := by rw [hs, e]; show b0 (_ :: _) 0 = _; rw [b00, toNat_ofNat _ (by omega)]
    have e1 : b0 s 1 = (128 + m / 4096 % 64 : Nat) := by rw [hs, e]; show b0 (_ :: _ :: _) 1 = _; rw [b01, toNat_ofNat _ (by omega)]
    have e2 : b0 s 2 = (128 + m / 64 % 64 : Nat) := by rw [hs, e]; show b0 (_ :: _ :: _ :: _) 2 = _; rw [b02, toNat_ofNat _ (by omega)]
    have e3 : b0 s 3 = (128 + m % 64 : Nat) := by rw [hs, e]; show b0 (_ :: _ :: _ :: _ :: r) 3 = _; rw [b03, toNat_ofNat _ (by omega)]
    have ev : v4 s = m := by unfold v4; rw [e0, e1, e2, e3]; omega
    rw [e] at htake ⊢
    rw [ev, if_pos ⟨by rw [e0]; omega, hsg, by rw [Int.toNat_natCast, e]; exact htake.symm⟩]; rfl
theorem first_eq (s : List UInt8) : s_runes_First (s, ()) = some (dec s, ()) := by
  obtain ⟨z, hz⟩ := fuel10
  have e : s_runes_First (s, ()) = runes_First.t0 (runes_First.p1 fuel) (s, ()) := rfl
  rw [e, hz]; exact first_gen s
theorem rfirst_eq (s : List UInt8) : s_ref01_First (s, ()) = some (dec s, ()) := by
  obtain ⟨z, hz⟩ := fuel10
  have e : s_ref01_First (s, ()) = ref01_First.p1 fuel fuel s (1 : Nat) := rfl
  rw [e, hz]; exact rfirst_gen s
def wh : Nat → List UInt8 → Bool
  | 0, _ => false
  | _ + 1, [] => true
  | n + 1, s => if (dec s).2 = 0 then false else wh n (s.drop (dec s).2.toNat)
theorem dec_len (s : List UInt8) : (dec s).2 = 0 ∨ ∃ k : Nat, (dec s).2 = k ∧ 1 ≤ k ∧ k ≤ s.length := by
  rcases dec_spec s with h | ⟨m, r, h, hs, _, _⟩
  · left; rw [h]; rfl
  · right
    have := enc_len m
    refine ⟨(enc m).length, by rw [h], this.1, by rw [hs, List.length_append]; omega⟩
theorem rnext_eq (s : List UInt8) : s_runes_reader_next (s, ()) = some (decide (0 < (dec s).2), (s.drop (dec s).2.toNat, ())) := by
  show runes_reader_next.t0 (s, ()) = _
  simp only [runes_reader_next.t0, first_eq, bindR_val]
  rcases dec_len s with h | ⟨k, h, h1, h2⟩
  · rw [h, mustR_dec (by omega), mustR_dec (by omega)]; simp
  · rw [h, mustR_dec (by omega), mustR_dec (by omega)]; simp
theorem whole_p1 (k : Nat) : ∀ (m : Nat) (s : List UInt8), s.length < m → runes_Whole.p1 k m s = some (wh m s, ())
  | 0, s, h => by omega
  | m + 1, s, h => by
    show runes_Whole.t1 (runes_Whole.p1 k m) (runes_Whole.p2 k) s = _
    simp only [runes_Whole.t1, iteB_eq, rnext_eq, bindR_val]
    cases s with
    | nil => rfl
    | cons a r =>
      rw [if_pos (by simp)]
      simp only [wh]
      rcases dec_len (a :: r) with hd | ⟨j, hd, h1, h2⟩
      · rw [hd]; rfl
      · rw [hd, if_neg (by simp [notB_eq]; omega), if_neg (by omega)]
        refine whole_p1 k m _ ?_
        rw [List.length_drop]; simp only [List.length_cons, Int.toNat_natCast] at h h2 ⊢; omega
theorem whole_eq (s : List UInt8) (h : s.length < 100000000000) : s_runes_Whole (s, ()) = some (wh fuel s, ()) := whole_p1 fuel fuel s (fuel_gt _ (by omega))
theorem rwhole_p1 (k : Nat) : ∀ (m : Nat) (s : List UInt8), s.length < m → ref01_Whole.p1 k m s = some (wh m s, ())
  | 0, s, h => by omega
  | m + 1, s, h => by
    show ref01_Whole.t1 (ref01_Whole.p1 k m) (ref01_Whole.p2 k) s = _
    simp only [ref01_Whole.t1, iteB_dec, rfirst_eq, bindR_val]
    cases s with
    | nil => rfl
    | cons a r =>
      rw [if_pos (by simp only [List.length_cons]; omega)]
      simp only [wh]
      rcases dec_len (a :: r) with hd | ⟨j, hd, h1, h2⟩
      · rw [hd]; rfl
      · rw [hd, if_neg (by omega), if_neg (by omega), mustR_dec (by omega), mustR_dec (by omega), List.take_length]
        refine rwhole_p1 k m _ ?_
        rw [List.length_drop]; simp only [List.length_cons, Int.toNat_natCast] at h h2 ⊢; omega
theorem rwhole_eq (s : List UInt8) (h : s.length < 100000000000) : s_ref01_Whole (s, ()) = some (wh fuel s, ()) := rwhole_p1 fuel fuel s (fuel_gt _ (by omega))
end
end Go.Proofs.YtogipciicekmoaaDoor.Vm.Gr
namespace Go.Proofs.YtogipciicekmoaaDoor.Vm.Gr
open Go Go.Proofs.YtogipciicekmoaaDoor.Vm
set_option linter.unusedVariables false
set_option maxRecDepth 100000
theorem w64_succ {i : Nat} (h : i < 4611686018427387904) : w64 ((i : Int) + 1) = ((i + 1 : Nat) : Int) := by
  rw [w64_id (by omega) (by omega)]; omega
theorem loopUp {σ α : Type} {N : Nat} (F : Nat → σ → Int → Option α) (E : σ → Option α) (Inv : Nat → σ → Prop) (hN : N < 4611686018427387903)
    (hstep : ∀ n (i : Nat) s, i < N → Inv i s → ∃ s', Inv (i + 1) s' ∧ F (n + 1) s (i : Int) = F n s' (w64 ((i : Int) + 1)))
    (hend : ∀ n s, Inv N s → F (n + 1) s (N : Int) = E s) : ∀ (d n i : Nat) s, i + d = N → d < n → Inv i s → ∃ s', Inv N s' ∧ F n s (i : Int) = E s'
  | 0, n + 1, i, s, hi, _, h => by
    have : i = N := by omega
    subst this
    exact ⟨s, h, hend n s h⟩
  | d + 1, n + 1, i, s, hi, hn, h => by
    obtain ⟨s1, h1, h2⟩ := hstep n i s (by omega) h
    obtain ⟨s2, h3, h4⟩ := loopUp F E Inv hN hstep hend d n (i + 1) s1 (by omega) (by omega) h1
    exact ⟨s2, h3, by rw [h2, w64_succ (by omega)]; exact h4⟩
  | _, 0, _, _, _, hn, _ => by omega
theorem loopAll {σ α : Type} {N : Nat} (F : Nat → σ → Int → Option α) (E : σ → Option α) (Inv : Nat → σ → Prop) (s : σ) (i : Nat) (hi : i ≤ N) (h0 : Inv i s) (hN : N < 4611686018427387903)
    (hstep : ∀ n (i : Nat) s, i < N → Inv i s → ∃ s', Inv (i + 1) s' ∧ F (n + 1) s (i : Int) = F n s' (w64 ((i : Int) + 1)))
    (hend : ∀ n s, Inv N s → F (n + 1) s (N : Int) = E s) : ∃ s', Inv N s' ∧ F fuel s (i : Int) = E s' :=
  loopUp F E Inv hN hstep hend (N - i) fuel i s (by omega) (show N - i < 4611686018427387904 by omega) h0
theorem lt_dec {a b : Nat} (h : a < b) : decide ((a : Int) < (b : Int)) = true := decide_eq_true (by omega)
theorem lt_no {a : Nat} : decide ((a : Int) < (a : Int)) = false := decide_eq_false (by omega)
theorem room_ok {α : Type} {x y : List α} (h : x.length + y.length < 1000000) : room x y = true := decide_eq_true (by omega)
def cutL (c : UInt8) : List UInt8 → List (List UInt8)
  | [] => [[]]
  | x :: l => if x = c then [] :: cutL c l else match cutL c l with
    | [] => []
    | p :: ps => (x :: p) :: ps
theorem cutL_ne (c : UInt8) : ∀ l, cutL c l ≠ []
  | [] => by simp [cutL]
  | x :: l => by
    unfold cutL
    split
    · simp
    · split
      · rename_i h; exact absurd h (cutL_ne c l)
      · simp
theorem cutL_none (c : UInt8) : ∀ l, c ∉ l → cutL c l = [l]
  | [], _ => rfl
  | x :: l, h => by
    have hx : x ≠ c := fun e => h (by simp [e])
    have hl : c ∉ l := fun e => h (by simp [e])
    unfold cutL
    rw [if_neg hx, cutL_none c l hl]
theorem cutL_app (c : UInt8) : ∀ (a b : List UInt8), c ∉ a → cutL c (a ++ c :: b) = a :: cutL c b
  | [], b, _ => by simp [cutL]
  | x :: a, b, h => by
    have hx : x ≠ c := fun e => h (by simp [e])
    have hl : c ∉ a := fun e => h (by simp [e])
    rw [List.cons_append]
    conv => lhs; unfold cutL
    rw [if_neg hx, cutL_app c a b hl]
theorem cutL_at {c : UInt8} {t : List UInt8} {k : Nat} (h : c ∉ t.take k) (hk : t[k]? = some c) : cutL c t = t.take k :: cutL c (t.drop (k + 1)) := by
  have hl : k < t.length := (List.getElem?_eq_some_iff.1 hk).1
  have he : t[k] = c := (List.getElem?_eq_some_iff.1 hk).2
  have : t = t.take k ++ c :: t.drop (k + 1) := by
    rw [← he, ← List.drop_eq_getElem_cons hl, List.take_append_drop]
  conv => lhs; rw [this]
  exact cutL_app c _ _ h
theorem cutL_len (c : UInt8) : ∀ l, (cutL c l).length = l.count c + 1
  | [] => rfl
  | x :: l => by
    have ih := cutL_len c l
    unfold cutL
    by_cases h : x = c
    · rw [if_pos h, List.length_cons, ih, h, List.count_cons_self]
    · rw [if_neg h, List.count_cons_of_ne (by simpa using h), ← ih]
      split
      · rename_i e; exact absurd e (cutL_ne c l)
      · rename_i e; rw [e]; rfl
theorem findB_spec (c : UInt8) : ∀ (l : List UInt8) (i : Nat), (c ∉ l ∧ findB c l (i : Int) = -1) ∨ ∃ k : Nat, c ∉ l.take k ∧ l[k]? = some c ∧ findB c l (i : Int) = ((i + k : Nat) : Int)
  | [], i => .inl ⟨by simp, rfl⟩
  | x :: l, i => by
    unfold findB
    cases h : x == c with
    | true => exact .inr ⟨0, by simp, by simp at h; simp [h], by simp⟩
    | false =>
      have hx : x ≠ c := by simpa using h
      simp only
      rw [show (i : Int) + 1 = ((i + 1 : Nat) : Int) by omega]
      rcases findB_spec c l (i + 1) with ⟨h1, h2⟩ | ⟨k, h1, h2, h3⟩
      · exact .inl ⟨by simp only [List.mem_cons, not_or]; exact ⟨fun e => hx e.symm, h1⟩, h2⟩
      · exact .inr ⟨k + 1, by simp only [List.take_succ_cons, List.mem_cons, not_or]; exact ⟨fun e => hx e.symm, h1⟩, by simpa using h2, by rw [h3]; omega⟩
theorem index_eq (x : List UInt8) (c : UInt8) : s_strings_Index (x, ([c], ())) = some (findB c x 0, ()) := rfl
theorem split_loop (c : UInt8) (M : Nat) (hM : M < 1000000) : ∀ (d n j : Nat) (x : List UInt8) (done : List (List UInt8)), x.length < 1000000 → d < n → j + d = M → x.count c = d → done.length = j →
    strings_genSplit.p2 fuel n x [c] 0 (M : Int) (done ++ List.replicate (d + 1) []) (j : Int) = some (done ++ cutL c x, ())
  | d, n + 1, j, x, done, hx, hn, hj, hc, hd => by
    have e1 : strings_genSplit.p2 fuel (n + 1) x [c] 0 (M : Int) (done ++ List.replicate (d + 1) []) (j : Int) = strings_genSplit.t2 (strings_genSplit.p3 fuel) (strings_genSplit.p2 fuel n) x [c] 0 (M : Int) (done ++ List.replicate (d + 1) []) (j : Int) := rfl
    rw [e1]
    unfold strings_genSplit.t2
    have hlen : (done ++ List.replicate (d + 1) ([] : List UInt8)).length = M + 1 := by rw [List.length_append, List.length_replicate]; omega
    cases d with
    | zero =>
      have hjM : j = M := by omega
      subst hjM
      rw [iteB_neg lt_no]
      show strings_genSplit.t3 x (done ++ [[]]) (j : Int) = _
      unfold strings_genSplit.t3
      have hs : (done ++ [([] : List UInt8)]).set j x = done ++ [x] := by
        rw [← hd, List.set_append_right _ _ (by omega), Nat.sub_self]
        rfl
      have hc0 : c ∉ x := List.count_eq_zero.1 hc
      have hl1 : (done ++ [([] : List UInt8)]).length = j + 1 := by simp [hd]
      have hl2 : (done ++ [x]).length = j + 1 := by simp [hd]
      rw [withinR_nat (by rw [hl1]; omega), w64_succ (by omega), hs, mustR_dec (by omega), mustR_dec (by rw [hl2]; omega), Int.toNat_natCast, cutL_none c x hc0, List.take_of_length_le (by rw [hl2]; omega)]
      rfl
    | succ d =>
      have hjM : j < M := by omega
      rw [iteB_pos (lt_dec hjM), index_eq, bindR_val]
      rcases findB_spec c x 0 with ⟨h1, h2⟩ | ⟨k, h1, h2, h3⟩
      · rw [List.count_eq_zero.2 h1] at hc; omega
      · have hk : k < x.length := (List.getElem?_eq_some_iff.1 h2).1
        rw [Nat.zero_add] at h3
        have h3 : findB c x 0 = (k : Int) := h3
        simp only [h3]
        have hw0 : w64 ((k : Int) + 0) = (k : Int) := w64_id (by omega) (by omega)
        have hw1 : w64 ((k : Int) + ((List.length [c] : Nat) : Int)) = ((k + 1 : Nat) : Int) := by
          have : ((List.length [c] : Nat) : Int) = 1 := rfl
          rw [this]; exact w64_succ (by omega)
        rw [iteB_neg (decide_eq_false (by omega)), hw0, hw1, mustR_dec (by omega), mustR_dec (by omega), withinR_nat (by rw [hlen]; omega), mustR_dec (by omega), mustR_dec (by omega), Int.toNat_natCast, Int.toNat_natCast, List.take_length, w64_succ (by omega), List.drop_zero]
        have hs : (done ++ List.replicate (d + 1 + 1) ([] : List UInt8)).set j (x.take k) = (done ++ [x.take k]) ++ List.replicate (d + 1) [] := by
          rw [← hd, List.set_append_right _ _ (by omega), Nat.sub_self, List.replicate_succ]
          simp
        rw [hs]
        have hcut := cutL_at h1 h2
        have hcnt : (x.drop (k + 1)).count c = d := by
          have e := congrArg List.length hcut
          rw [List.length_cons, cutL_len, cutL_len] at e
          omega
        rw [split_loop c M hM d n (j + 1) (x.drop (k + 1)) (done ++ [x.take k]) (by rw [List.length_drop]; omega) (by omega) (by omega) hcnt (by simp [hd]), hcut]
        simp
theorem split_eq (c : UInt8) (s : List UInt8) (hs : s.length < 100000) : s_strings_Split (s, ([c], ())) = some (cutL c s, ()) := by
  have hle : s.count c ≤ s.length := List.count_le_length
  have e : s_strings_Split (s, ([c], ())) = bindR (s_strings_genSplit (s, ([c], (0, (-1, ()))))) fun r1 => some (r1.1, ()) := rfl
  have hcnt : countB c s 0 = ((s.count c : Nat) : Int) := by rw [countB_from]; omega
  have e2 : s_strings_genSplit (s, ([c], (0, (-1, ())))) = strings_genSplit.p1 fuel s [c] 0 (w64 (countB c s 0 + 1)) := rfl
  have hmin : minI ((s.count c + 1 : Nat) : Int) ((s.length + 1 : Nat) : Int) = ((s.count c + 1 : Nat) : Int) := by unfold minI; omega
  have e3 : strings_genSplit.p1 fuel s [c] 0 ((s.count c + 1 : Nat) : Int) = strings_genSplit.p2 fuel fuel s [c] 0 ((s.count c : Nat) : Int) (List.replicate (s.count c + 1) []) 0 := by
    show strings_genSplit.t1 (strings_genSplit.p2 fuel fuel) s [c] 0 ((s.count c + 1 : Nat) : Int) = _
    unfold strings_genSplit.t1
    rw [w64_succ (by omega), hmin, mustR_dec (by omega)]
    have : w64 (((s.count c + 1 : Nat) : Int) - 1) = ((s.count c : Nat) : Int) := by rw [w64_id (by omega) (by omega)]; omega
    rw [this, Int.toNat_natCast]
  rw [e, e2, hcnt, w64_succ (by omega), e3]
  have := split_loop c (s.count c) (by omega) (s.count c) fuel 0 s [] (by omega) (by have := fuel_gt (s.count c) (by omega); omega) (by omega) rfl rfl
  rw [List.nil_append, List.nil_append] at this
  have h0 : strings_genSplit.p2 fuel fuel s [c] 0 ((s.count c : Nat) : Int) (List.replicate (s.count c + 1) []) 0 = some (cutL c s, ()) := this
  rw [h0]; rfl
end Go.Proofs.YtogipciicekmoaaDoor.Vm.Gr
namespace Go.Proofs.YtogipciicekmoaaDoor.Vm.Gr
open Go Go.Proofs.YtogipciicekmoaaDoor.Vm
set_option linter.unusedVariables false
set_option maxRecDepth 100000
theorem byteAt_eq {s : List UInt8} {i : Nat} (h : i < s.length) : byteAt s i = ((s[i]).toNat : Int) := by
  unfold byteAt
  rw [List.getD_eq_getElem?_getD, List.getElem?_eq_getElem h]
  rfl
theorem take_succ_mem {c : UInt8} {t : List UInt8} {k : Nat} (hk : k < t.length) (h : c ∉ t.take k) (hc : t[k] ≠ c) : c ∉ t.take (k + 1) := by
  rw [List.take_add_one, List.getElem?_eq_getElem hk]
  simp only [Option.toList_some, List.mem_append, List.mem_singleton, not_or]
  exact ⟨h, fun e => hc e.symm⟩
theorem rcut_loop (c : UInt8) (s : List UInt8) (hs : s.length < 100000) : ∀ (d n i fr : Nat) (l : List (List UInt8)), i + d = s.length → d + 1 < n → fr ≤ i → l.length ≤ i → l ++ cutL c (s.drop fr) = cutL c s → c ∉ (s.drop fr).take (i - fr) →
    ref10_cut.p1 fuel n s (c.toNat : Int) l (fr : Int) (i : Int) = some (cutL c s, ())
  | d, n + 1, i, fr, l, hi, hn, hf, hl, hcut, hno => by
    have e1 : ref10_cut.p1 fuel (n + 1) s (c.toNat : Int) l (fr : Int) (i : Int) = ref10_cut.t1 (ref10_cut.p2 fuel (ref10_cut.p1 fuel n)) (ref10_cut.p3 fuel) s (c.toNat : Int) l (fr : Int) (i : Int) := rfl
    rw [e1]
    unfold ref10_cut.t1
    rw [iteB_pos (decide_eq_true (by omega))]
    have add : ref10_cut.p2 fuel (ref10_cut.p1 fuel n) s (c.toNat : Int) l (fr : Int) (i : Int) true = ref10_cut.p1 fuel n s (c.toNat : Int) (l ++ [(s.drop fr).take (i - fr)]) ((i + 1 : Nat) : Int) ((i + 1 : Nat) : Int) := by
      show ref10_cut.t2 (ref10_cut.p4 fuel (ref10_cut.p1 fuel n)) s (c.toNat : Int) l (fr : Int) (i : Int) true = _
      unfold ref10_cut.t2
      have hd : List.drop fr (List.take i s) = (s.drop fr).take (i - fr) := by rw [List.drop_take]
      rw [iteB_true, mustR_dec (by omega), mustR_dec (by omega), mustR_dec (by omega), mustR_dec (by simp only [Int.toNat_natCast]; omega)]
      simp only [Int.toNat_natCast, hd]
      rw [mustR_pos (room_ok (by simp; omega)), w64_succ (by omega)]
      show ref10_cut.p1 fuel n s (c.toNat : Int) _ _ (w64 ((i : Int) + 1)) = _
      rw [w64_succ (by omega)]
    by_cases he : i = s.length
    · rw [iteB_pos (decide_eq_true (by omega)), add]
      have hd : d = 0 := by omega
      have hcl : cutL c (s.drop fr) = [(s.drop fr).take (i - fr)] := by
        have : (s.drop fr).take (i - fr) = s.drop fr := List.take_of_length_le (by rw [List.length_drop]; omega)
        rw [this] at hno ⊢
        exact cutL_none c _ hno
      rw [hcl] at hcut
      cases n with
      | zero => omega
      | succ n =>
        have e2 : ref10_cut.p1 fuel (n + 1) s (c.toNat : Int) (l ++ [(s.drop fr).take (i - fr)]) ((i + 1 : Nat) : Int) ((i + 1 : Nat) : Int) = ref10_cut.t1 (ref10_cut.p2 fuel (ref10_cut.p1 fuel n)) (ref10_cut.p3 fuel) s (c.toNat : Int) (l ++ [(s.drop fr).take (i - fr)]) ((i + 1 : Nat) : Int) ((i + 1 : Nat) : Int) := rfl
        rw [e2]
        unfold ref10_cut.t1
        rw [iteB_neg (decide_eq_false (by omega))]
        show some (l ++ [(s.drop fr).take (i - fr)], ()) = _
        rw [hcut]
    · have hlt : i < s.length := by omega
      have hdd : d ≠ 0 := by omega
      obtain ⟨d', rfl⟩ : ∃ d', d = d' + 1 := ⟨d - 1, by omega⟩
      rw [iteB_neg (decide_eq_false (by omega)), withinR_nat hlt, byteAt_eq hlt]
      have hk : i - fr < (s.drop fr).length := by rw [List.length_drop]; omega
      have hge : (s.drop fr)[i - fr] = s[i] := by rw [List.getElem_drop]; congr 1; omega
      by_cases hc : s[i] = c
      · rw [hc, decide_eq_true rfl, add]
        have hat : (s.drop fr)[i - fr]? = some c := by rw [List.getElem?_eq_getElem hk, hge, hc]
        have hcl := cutL_at hno hat
        have hdr : List.drop (i - fr + 1) (s.drop fr) = s.drop (i + 1) := by rw [List.drop_drop]; congr 1; omega
        rw [hdr] at hcl
        rw [hcl] at hcut
        exact rcut_loop c s hs d' n (i + 1) (i + 1) _ (by omega) (by omega) (Nat.le_refl _) (by simp; omega) (by rw [← hcut]; simp) (by simp)
      · have hcn : decide (((s[i]).toNat : Int) = (c.toNat : Int)) = false := decide_eq_false fun e => hc (ext8 (by omega))
        rw [hcn]
        have skip : ref10_cut.p2 fuel (ref10_cut.p1 fuel n) s (c.toNat : Int) l (fr : Int) (i : Int) false = ref10_cut.p1 fuel n s (c.toNat : Int) l (fr : Int) ((i + 1 : Nat) : Int) := by
          show ref10_cut.p1 fuel n s (c.toNat : Int) l (fr : Int) (w64 ((i : Int) + 1)) = _
          rw [w64_succ (by omega)]
        rw [skip]
        refine rcut_loop c s hs d' n (i + 1) fr l (by omega) (by omega) (by omega) (by omega) hcut ?_
        have : i + 1 - fr = i - fr + 1 := by omega
        rw [this]
        exact take_succ_mem hk hno (by rw [hge]; exact hc)
theorem rcut_eq (c : UInt8) (s : List UInt8) (hs : s.length < 100000) : s_ref10_cut (s, ((c.toNat : Int), ())) = some (cutL c s, ()) := by
  have e : s_ref10_cut (s, ((c.toNat : Int), ())) = ref10_cut.p1 fuel fuel s (c.toNat : Int) [] ((0 : Nat) : Int) ((0 : Nat) : Int) := rfl
  rw [e]
  exact rcut_loop c s hs s.length fuel 0 0 [] (by omega) (by have := fuel_gt (s.length + 1) (by omega); omega) (Nat.le_refl _) (Nat.le_refl _) (by simp) (by simp)
def wd (p : List UInt8) : Bool := !decide (p = [])
def Wd (s : List UInt8) : List (List UInt8) := (cutL 32 s).filter wd
theorem filter_take {α : Type} (f : α → Bool) (l : List α) (i : Nat) (h : i < l.length) : (l.take (i + 1)).filter f = (l.take i).filter f ++ (match f l[i] with | true => [l[i]] | false => []) := by
  rw [List.take_add_one, List.getElem?_eq_getElem h, List.filter_append]
  cases e : f l[i] <;> simp [e]
theorem filter_len {α : Type} (f : α → Bool) (l : List α) (i : Nat) : ((l.take i).filter f).length ≤ i := Nat.le_trans (List.length_filter_le _ _) (List.length_take_le _ _)
theorem getD_at {α : Type} {l : List α} {i : Nat} (d : α) (h : i < l.length) : l.getD i d = l[i] := by
  rw [List.getD_eq_getElem?_getD, List.getElem?_eq_getElem h]; rfl
theorem cutL_small (c : UInt8) (s : List UInt8) : (cutL c s).length ≤ s.length + 1 := by
  rw [cutL_len]; have : s.count c ≤ s.length := List.count_le_length; omega
theorem words_eq (s : List UInt8) (hs : s.length < 100000) : s_gram_words (s, ()) = some (Wd s, ()) := by
  have e : s_gram_words (s, ()) = bindR (s_strings_Split (s, ([32], ()))) fun r1 => gram_words.p1 fuel fuel [] r1.1 ((r1.1.length : Nat) : Int) ((0 : Nat) : Int) := rfl
  rw [e, split_eq 32 s hs, bindR_val]
  simp only
  have hsm := cutL_small 32 s
  unfold Wd
  generalize cutL 32 s = L at hsm ⊢
  obtain ⟨o, ho, e2⟩ := loopAll (N := L.length) (fun n o i => gram_words.p1 fuel n o L ((L.length : Nat) : Int) i) (fun o => some (o, ())) (fun i o => o = (L.take i).filter wd) [] 0 (Nat.zero_le _) rfl (by omega)
    (fun n i o hi ho => by
      have e1 : gram_words.p1 fuel (n + 1) o L ((L.length : Nat) : Int) (i : Int) = gram_words.t1 (gram_words.p2 fuel (gram_words.p1 fuel n)) (gram_words.p3 fuel) o L ((L.length : Nat) : Int) (i : Int) := rfl
      unfold gram_words.t1 at e1
      have hol : o.length ≤ i := by rw [ho]; exact filter_len _ _ _
      rw [iteB_pos (lt_dec hi), withinR_nat hi, getD_at _ hi] at e1
      have hf := filter_take wd L i hi
      rw [← ho] at hf
      cases hw : wd L[i] with
      | true =>
        rw [hw] at hf
        have : (!decide (L[i] = [])) = true := hw
        rw [this, iteB_true, mustR_pos (room_ok (by simp; omega))] at e1
        exact ⟨_, hf.symm, e1⟩
      | false =>
        rw [hw] at hf
        have : (!decide (L[i] = [])) = false := hw
        rw [this, iteB_false] at e1
        exact ⟨o, by rw [hf]; simp, e1⟩)
    (fun n o ho => by
      have e1 : gram_words.p1 fuel (n + 1) o L ((L.length : Nat) : Int) (L.length : Int) = gram_words.t1 (gram_words.p2 fuel (gram_words.p1 fuel n)) (gram_words.p3 fuel) o L ((L.length : Nat) : Int) (L.length : Int) := rfl
      unfold gram_words.t1 at e1
      rw [e1, iteB_neg lt_no]
      rfl)
  rw [List.take_length] at ho
  rw [← ho]
  exact e2
theorem rwords_eq (s : List UInt8) (hs : s.length < 100000) : s_ref10_words (s, ()) = some (Wd s, ()) := by
  have e : s_ref10_words (s, ()) = bindR (s_ref10_cut (s, (((32 : UInt8).toNat : Int), ()))) fun r1 => ref10_words.p1 fuel fuel r1.1 [] ((0 : Nat) : Int) := rfl
  rw [e, rcut_eq 32 s hs, bindR_val]
  simp only
  have hsm := cutL_small 32 s
  unfold Wd
  generalize cutL 32 s = L at hsm ⊢
  obtain ⟨o, ho, e2⟩ := loopAll (N := L.length) (fun n o i => ref10_words.p1 fuel n L o i) (fun o => some (o, ())) (fun i o => o = (L.take i).filter wd) [] 0 (Nat.zero_le _) rfl (by omega)
    (fun n i o hi ho => by
      have e1 : ref10_words.p1 fuel (n + 1) L o (i : Int) = ref10_words.t1 (ref10_words.p2 fuel (ref10_words.p1 fuel n)) (ref10_words.p3 fuel) L o (i : Int) := rfl
      unfold ref10_words.t1 at e1
      have hol : o.length ≤ i := by rw [ho]; exact filter_len _ _ _
      rw [iteB_pos (lt_dec hi), withinR_nat hi, getD_at _ hi] at e1
      have hf := filter_take wd L i hi
      rw [← ho] at hf
      cases hw : wd L[i] with
      | true =>
        rw [hw] at hf
        have : (!decide (L[i] = [])) = true := hw
        rw [this, iteB_true, withinR_nat hi, getD_at _ hi, mustR_pos (room_ok (by simp; omega))] at e1
        exact ⟨_, hf.symm, e1⟩
      | false =>
        rw [hw] at hf
        have : (!decide (L[i] = [])) = false := hw
        rw [this, iteB_false] at e1
        exact ⟨o, by rw [hf]; simp, e1⟩)
    (fun n o ho => by
      have e1 : ref10_words.p1 fuel (n + 1) L o (L.length : Int) = ref10_words.t1 (ref10_words.p2 fuel (ref10_words.p1 fuel n)) (ref10_words.p3 fuel) L o (L.length : Int) := rfl
      unfold ref10_words.t1 at e1
      rw [e1, iteB_neg lt_no]
      rfl)
  rw [List.take_length] at ho
  rw [← ho]
  exact e2
theorem letB_int (n : Nat) : letB n = (decide ((97 : Int) ≤ (n : Int)) && decide ((n : Int) ≤ 122) || decide ((65 : Int) ≤ (n : Int)) && decide ((n : Int) ≤ 90)) := by
  unfold letB
  rw [decide_eq_decide.2 (show (97 ≤ n) ↔ (97 : Int) ≤ (n : Int) by omega), decide_eq_decide.2 (show (n ≤ 122) ↔ (n : Int) ≤ 122 by omega), decide_eq_decide.2 (show (65 ≤ n) ↔ (65 : Int) ≤ (n : Int) by omega), decide_eq_decide.2 (show (n ≤ 90) ↔ (n : Int) ≤ 90 by omega)]
theorem rname_step (n i : Nat) (s : List UInt8) (hi : i < s.length) (hs : s.length < 100000) : ref10_Name.p1 fuel (n + 1) s (i : Int) = (match nmB (decide (i = 0)) (s[i]).toNat with | true => ref10_Name.p1 fuel n s ((i + 1 : Nat) : Int) | false => some (false, ())) := by
  have e1 : ref10_Name.p1 fuel (n + 1) s (i : Int) = ref10_Name.t1 (ref10_Name.p2 fuel (ref10_Name.p1 fuel n)) (ref10_Name.p3 fuel) s (i : Int) := rfl
  rw [e1]
  unfold ref10_Name.t1
  rw [iteB_pos (lt_dec hi), withinR_nat hi, byteAt_eq hi]
  generalize (s[i]).toNat = m
  have e4 : ∀ b, ref10_Name.p4 fuel (ref10_Name.p1 fuel n) s (i : Int) b = iteB b (some (false, ())) (ref10_Name.p1 fuel n s ((i + 1 : Nat) : Int)) := fun b => by
    show iteB b (some (false, ())) (ref10_Name.p1 fuel n s (w64 ((i : Int) + 1))) = _
    rw [w64_succ (by omega)]
  have e2 : ∀ b, ref10_Name.p2 fuel (ref10_Name.p1 fuel n) s (i : Int) (m : Int) b = iteB (notB b) (iteB (decide ((i : Int) = 0)) (ref10_Name.p4 fuel (ref10_Name.p1 fuel n) s (i : Int) true) (iteB (!decide ((m : Int) = 95)) (iteB (decide ((48 : Int) ≤ (m : Int))) (ref10_Name.p4 fuel (ref10_Name.p1 fuel n) s (i : Int) (notB (decide ((m : Int) ≤ 57)))) (ref10_Name.p4 fuel (ref10_Name.p1 fuel n) s (i : Int) true)) (ref10_Name.p4 fuel (ref10_Name.p1 fuel n) s (i : Int) false))) (ref10_Name.p4 fuel (ref10_Name.p1 fuel n) s (i : Int) false) := fun b => rfl
  have hl := letB_int m
  have e3 : iteB (decide ((97 : Int) ≤ (m : Int))) (iteB (decide ((m : Int) ≤ 122)) (ref10_Name.p2 fuel (ref10_Name.p1 fuel n) s (i : Int) (m : Int) true) (iteB (decide ((65 : Int) ≤ (m : Int))) (ref10_Name.p2 fuel (ref10_Name.p1 fuel n) s (i : Int) (m : Int) (decide ((m : Int) ≤ 90))) (ref10_Name.p2 fuel (ref10_Name.p1 fuel n) s (i : Int) (m : Int) false)))
      (iteB (decide ((65 : Int) ≤ (m : Int))) (ref10_Name.p2 fuel (ref10_Name.p1 fuel n) s (i : Int) (m : Int) (decide ((m : Int) ≤ 90))) (ref10_Name.p2 fuel (ref10_Name.p1 fuel n) s (i : Int) (m : Int) false)) = ref10_Name.p2 fuel (ref10_Name.p1 fuel n) s (i : Int) (m : Int) (letB m) := by
    rw [hl]
    cases decide ((97 : Int) ≤ (m : Int)) <;> cases decide ((m : Int) ≤ 122) <;> cases decide ((65 : Int) ≤ (m : Int)) <;> cases decide ((m : Int) ≤ 90) <;> rfl
  refine e3.trans ?_
  rw [e2]
  simp only [e4]
  have hi0 : decide ((i : Int) = 0) = decide (i = 0) := decide_eq_decide.2 (by omega)
  have h95 : decide ((m : Int) = 95) = decide (m = 95) := decide_eq_decide.2 (by omega)
  have h48 : decide ((48 : Int) ≤ (m : Int)) = decide (48 ≤ m) := decide_eq_decide.2 (by omega)
  have h57 : decide ((m : Int) ≤ 57) = decide (m ≤ 57) := decide_eq_decide.2 (by omega)
  rw [hi0, h95, h48, h57]
  unfold nmB digB
  cases letB m <;> cases decide (i = 0) <;> cases decide (m = 95) <;> cases decide (48 ≤ m) <;> cases decide (m ≤ 57) <;> rfl
theorem rname_loop (s : List UInt8) (hs : s.length < 100000) : ∀ (d n i : Nat), i + d = s.length → d < n → ref10_Name.p1 fuel n s (i : Int) = some (nmAll (decide (i = 0)) (s.drop i) && (!decide (s = []) && decide (s.length ≤ 16)), ())
  | 0, n + 1, i, hi, _ => by
    have : i = s.length := by omega
    subst this
    have e1 : ref10_Name.p1 fuel (n + 1) s (s.length : Int) = ref10_Name.t1 (ref10_Name.p2 fuel (ref10_Name.p1 fuel n)) (ref10_Name.p3 fuel) s (s.length : Int) := rfl
    rw [e1]
    unfold ref10_Name.t1
    rw [iteB_neg lt_no]
    show ref10_Name.t3 s = _
    unfold ref10_Name.t3
    rw [List.drop_length]
    cases s with
    | nil => rfl
    | cons x s =>
      rw [iteB_pos (decide_eq_true (by simp only [List.length_cons]; omega))]
      have h1 : decide (x :: s = []) = false := by simp
      have h2 : decide ((((x :: s).length : Nat) : Int) < 17) = decide ((x :: s).length ≤ 16) := decide_eq_decide.2 (by omega)
      rw [h1, h2]
      rfl
  | d + 1, n + 1, i, hi, hn => by
    have hlt : i < s.length := by omega
    rw [rname_step n i s hlt hs, nmAll_drop s i s[i] (List.getElem?_eq_getElem hlt)]
    cases nmB (decide (i = 0)) (s[i]).toNat with
    | true =>
      simp only [Bool.true_and]
      exact rname_loop s hs d n (i + 1) (by omega) (by omega)
    | false => rfl
  | _, 0, _, _, hn => by omega
theorem rname_eq (s : List UInt8) (hs : s.length < 100000) : s_ref10_Name (s, ()) = some (nameB s, ()) := by
  have e : s_ref10_Name (s, ()) = ref10_Name.p1 fuel fuel s ((0 : Nat) : Int) := rfl
  rw [e, rname_loop s hs s.length fuel 0 (by omega) (by have := fuel_gt s.length (by omega); omega)]
  unfold nameB
  rw [Bool.and_assoc]
  rfl
end Go.Proofs.YtogipciicekmoaaDoor.Vm.Gr
namespace Go.Proofs.YtogipciicekmoaaDoor.Vm.Gr
open Go Go.Proofs.YtogipciicekmoaaDoor.Vm
set_option linter.unusedVariables false
set_option maxRecDepth 100000
theorem idx_gen {β : Type} (l : List β) (d0 : β) (g : β → Option (Bool × Unit)) (P : β → Bool) (hg : ∀ x ∈ l, g x = some (P x, ())) (F : Nat → Int → Option (Int × Unit))
    (hF : ∀ n (i : Nat), i < l.length → F (n + 1) (i : Int) = bindR (g (l.getD i d0)) fun r => iteB r.1 (some ((i : Int), ())) (F n (w64 ((i : Int) + 1)))) (hE : ∀ n, F (n + 1) (l.length : Int) = some (-1, ())) (hl : l.length < 1000000) :
    ∃ r : Int, F fuel ((0 : Nat) : Int) = some (r, ()) ∧ decide (0 ≤ r) = l.any P := by
  have loop : ∀ (d n i : Nat), i + d = l.length → d < n → ∃ r : Int, F n (i : Int) = some (r, ()) ∧ decide (0 ≤ r) = (l.drop i).any P := by
    intro d
    induction d with
    | zero =>
      intro n i hi hn
      cases n with
      | zero => omega
      | succ n =>
        have : i = l.length := by omega
        subst this
        exact ⟨-1, hE n, by simp⟩
    | succ d ih =>
      intro n i hi hn
      cases n with
      | zero => omega
      | succ n =>
        have hlt : i < l.length := by omega
        have hm : l[i] ∈ l := List.getElem_mem hlt
        rw [hF n i hlt, getD_at d0 hlt, hg _ hm, bindR_val, List.drop_eq_getElem_cons hlt, List.any_cons]
        cases P l[i] with
        | true => exact ⟨i, rfl, by simp⟩
        | false =>
          rw [iteB_false, w64_succ (by omega)]
          obtain ⟨r, h1, h2⟩ := ih n (i + 1) (by omega) (by omega)
          exact ⟨r, h1, by simpa using h2⟩
  have := loop l.length fuel 0 (by omega) (by have := fuel_gt l.length (by omega); omega)
  simpa using this
theorem isName_eq (s : List UInt8) : s_IsName (s, ()) = some (nameB s, ()) := rfl
theorem areNames_eq (l : List (List UInt8)) (hl : l.length < 1000000) : s_gram_areNames (l, ()) = some (l.all nameB, ()) := by
  have e : s_gram_areNames (l, ()) = bindR (bindR (slices_IndexFunc.p1 fuel fuel l () ((l.length : Nat) : Int) ((0 : Nat) : Int)) fun r1 => some (decide ((0 : Int) ≤ r1.1), ())) fun r1 => some (notB r1.1, ()) := rfl
  obtain ⟨r, h1, h2⟩ := idx_gen l [] (fun x => s_gram_areNames_1 (x, ())) (fun x => !nameB x) (fun x _ => rfl) (fun n i => slices_IndexFunc.p1 fuel n l () ((l.length : Nat) : Int) i)
    (fun n i hi => by
      have e1 : slices_IndexFunc.p1 fuel (n + 1) l () ((l.length : Nat) : Int) (i : Int) = slices_IndexFunc.t1 (slices_IndexFunc.p1 fuel n) (slices_IndexFunc.p2 fuel) l () ((l.length : Nat) : Int) (i : Int) := rfl
      unfold slices_IndexFunc.t1 at e1
      rw [iteB_pos (lt_dec hi), withinR_nat hi] at e1
      exact e1)
    (fun n => by
      have e1 : slices_IndexFunc.p1 fuel (n + 1) l () ((l.length : Nat) : Int) (l.length : Int) = slices_IndexFunc.t1 (slices_IndexFunc.p1 fuel n) (slices_IndexFunc.p2 fuel) l () ((l.length : Nat) : Int) (l.length : Int) := rfl
      unfold slices_IndexFunc.t1 at e1
      rw [iteB_neg lt_no] at e1
      exact e1) hl
  rw [e, h1, bindR_val, bindR_val]
  simp only [h2, notB_eq]
  congr 2
  rw [List.all_eq_not_any_not]
theorem rnames_eq (l : List (List UInt8)) (hl : l.length < 1000000) (hs : ∀ p ∈ l, p.length < 100000) : s_ref10_names (l, ()) = some (l.all nameB, ()) := by
  have e : s_ref10_names (l, ()) = ref10_names.p1 fuel fuel l ((0 : Nat) : Int) := rfl
  have loop : ∀ (d n i : Nat), i + d = l.length → d < n → ref10_names.p1 fuel n l (i : Int) = some ((l.drop i).all nameB, ()) := by
    intro d
    induction d with
    | zero =>
      intro n i hi hn
      cases n with
      | zero => omega
      | succ n =>
        have : i = l.length := by omega
        subst this
        have e1 : ref10_names.p1 fuel (n + 1) l (l.length : Int) = ref10_names.t1 (ref10_names.p1 fuel n) (ref10_names.p2 fuel) l (l.length : Int) := rfl
        unfold ref10_names.t1 at e1
        rw [e1, iteB_neg lt_no, List.drop_length]
        rfl
    | succ d ih =>
      intro n i hi hn
      cases n with
      | zero => omega
      | succ n =>
        have hlt : i < l.length := by omega
        have e1 : ref10_names.p1 fuel (n + 1) l (i : Int) = ref10_names.t1 (ref10_names.p1 fuel n) (ref10_names.p2 fuel) l (i : Int) := rfl
        unfold ref10_names.t1 at e1
        rw [e1, iteB_pos (lt_dec hlt), withinR_nat hlt, getD_at _ hlt, rname_eq _ (hs _ (List.getElem_mem hlt)), bindR_val, List.drop_eq_getElem_cons hlt, List.all_cons]
        cases nameB l[i] with
        | true => rw [notB_eq, Bool.not_true, iteB_false, w64_succ (by omega), ih n (i + 1) (by omega) (by omega)]; simp
        | false => rfl
  rw [e, loop l.length fuel 0 (by omega) (by have := fuel_gt l.length (by omega); omega), List.drop_zero]
def wF (s : List UInt8) : List UInt8 := s.takeWhile (· != 32)
def wR (s : List UInt8) : List UInt8 := s.dropWhile (· != 32)
theorem wFR (s : List UInt8) : wF s ++ wR s = s := List.takeWhile_append_dropWhile
theorem trimB_len (c : UInt8) : ∀ l, (trimB c l).length ≤ l.length
  | [] => Nat.le_refl _
  | x :: l => by
    unfold trimB
    cases x == c with
    | true => have := trimB_len c l; simp only [List.length_cons]; omega
    | false => exact Nat.le_refl _
theorem wR_len (l : List UInt8) : (wR l).length ≤ l.length := by
  have := congrArg List.length (wFR l)
  rw [List.length_append] at this
  omega
theorem wR_cons (x : UInt8) (l : List UInt8) : wR (x :: l) = if x = 32 then x :: l else wR l := by
  unfold wR
  rw [List.dropWhile_cons]
  by_cases h : x = 32
  · rw [if_pos h, if_neg (by simp [h])]
  · rw [if_neg h, if_pos (by simpa using h)]
theorem wF_cons (x : UInt8) (l : List UInt8) : wF (x :: l) = if x = 32 then [] else x :: wF l := by
  unfold wF
  rw [List.takeWhile_cons]
  by_cases h : x = 32
  · rw [if_pos h, if_neg (by simp [h])]
  · rw [if_neg h, if_pos (by simpa using h)]
theorem trimB_cons (x : UInt8) (l : List UInt8) : trimB 32 (x :: l) = if x = 32 then trimB 32 l else x :: l := by
  show (match x == 32 with | true => trimB 32 l | false => x :: l) = _
  by_cases h : x = 32
  · rw [if_pos h, beq_iff_eq.2 h]
  · rw [if_neg h, beq_eq_false_iff_ne.2 h]
theorem byteAt_mid (a : List UInt8) (x : UInt8) (u : List UInt8) : byteAt (a ++ x :: u) a.length = (x.toNat : Int) := by
  rw [byteAt_eq (by simp)]
  simp
theorem bh2 (a1 : ref10_behind.T1) (x4 : Int) : ∀ (u a : List UInt8) (n : Nat), (a ++ u).length < 100000 → u.length < n → ref10_behind.p2 fuel a1 n (a ++ u) ((a.length : Nat) : Int) x4 = ref10_behind.p7 fuel a1 fuel (a ++ u) (((a ++ u).length - (trimB 32 u).length : Nat) : Int) x4
  | [], a, n + 1, hs, hn => by
    have e1 : ref10_behind.p2 fuel a1 (n + 1) (a ++ []) ((a.length : Nat) : Int) x4 = ref10_behind.t2 (ref10_behind.p4 fuel a1 (ref10_behind.p2 fuel a1 n)) (a ++ []) ((a.length : Nat) : Int) x4 := rfl
    rw [e1]
    unfold ref10_behind.t2
    have : (a ++ ([] : List UInt8)).length = a.length := by simp
    rw [iteB_neg (decide_eq_false (by rw [this]; omega)), this]
    rfl
  | x :: u, a, n + 1, hs, hn => by
    have e1 : ref10_behind.p2 fuel a1 (n + 1) (a ++ x :: u) ((a.length : Nat) : Int) x4 = ref10_behind.t2 (ref10_behind.p4 fuel a1 (ref10_behind.p2 fuel a1 n)) (a ++ x :: u) ((a.length : Nat) : Int) x4 := rfl
    rw [e1]
    unfold ref10_behind.t2
    have hl : (a ++ x :: u).length = a.length + u.length + 1 := by simp; omega
    rw [iteB_pos (lt_dec (by omega)), withinR_nat (by omega), byteAt_mid, trimB_cons]
    by_cases h : x = 32
    · rw [if_pos h, decide_eq_true (by rw [h]; rfl)]
      show ref10_behind.p2 fuel a1 n (a ++ x :: u) (w64 ((a.length : Int) + 1)) x4 = _
      have := bh2 a1 x4 u (a ++ [x]) n (by simpa using hs) (by simp only [List.length_cons] at hn; omega)
      rw [w64_succ (by omega)]
      simpa using this
    · rw [if_neg h, decide_eq_false (fun e => h (ext8 (by have : ((x.toNat : Nat) : Int) = ((32 : UInt8).toNat : Int) := e; omega)))]
      show ref10_behind.p7 fuel a1 fuel (a ++ x :: u) ((a.length : Nat) : Int) x4 = _
      have : (a ++ x :: u).length - (x :: u).length = a.length := by rw [hl]; simp only [List.length_cons]; omega
      rw [this]
  | [], a, 0, hs, hn => by omega
  | x :: u, a, 0, hs, hn => by omega
theorem bh7 (a1 : ref10_behind.T1) (x4 : Int) : ∀ (u a : List UInt8) (n : Nat), (a ++ u).length < 100000 → u.length < n → ref10_behind.p7 fuel a1 n (a ++ u) ((a.length : Nat) : Int) x4 = a1 (a ++ u) (((a ++ u).length - (wR u).length : Nat) : Int) (w64 (x4 + 1))
  | [], a, n + 1, hs, hn => by
    have e1 : ref10_behind.p7 fuel a1 (n + 1) (a ++ []) ((a.length : Nat) : Int) x4 = ref10_behind.t7 (ref10_behind.p8 fuel a1 (ref10_behind.p7 fuel a1 n)) (a ++ []) ((a.length : Nat) : Int) x4 := rfl
    rw [e1]
    unfold ref10_behind.t7
    have : (a ++ ([] : List UInt8)).length = a.length := by simp
    rw [iteB_neg (decide_eq_false (by rw [this]; omega)), this]
    rfl
  | x :: u, a, n + 1, hs, hn => by
    have e1 : ref10_behind.p7 fuel a1 (n + 1) (a ++ x :: u) ((a.length : Nat) : Int) x4 = ref10_behind.t7 (ref10_behind.p8 fuel a1 (ref10_behind.p7 fuel a1 n)) (a ++ x :: u) ((a.length : Nat) : Int) x4 := rfl
    rw [e1]
    unfold ref10_behind.t7
    have hl : (a ++ x :: u).length = a.length + u.length + 1 := by simp; omega
    rw [iteB_pos (lt_dec (by omega)), withinR_nat (by omega), byteAt_mid, wR_cons]
    by_cases h : x = 32
    · rw [if_pos h, decide_eq_true (by rw [h]; rfl)]
      show a1 (a ++ x :: u) ((a.length : Nat) : Int) (w64 (x4 + 1)) = _
      have : (a ++ x :: u).length - (x :: u).length = a.length := by rw [hl]; simp only [List.length_cons]; omega
      rw [this]
    · rw [if_neg h, decide_eq_false (fun e => h (ext8 (by have : ((x.toNat : Nat) : Int) = ((32 : UInt8).toNat : Int) := e; omega)))]
      show ref10_behind.p7 fuel a1 n (a ++ x :: u) (w64 ((a.length : Int) + 1)) x4 = _
      have := bh7 a1 x4 u (a ++ [x]) n (by simpa using hs) (by simp only [List.length_cons] at hn; omega)
      rw [w64_succ (by omega)]
      simpa using this
  | [], a, 0, hs, hn => by omega
  | x :: u, a, 0, hs, hn => by omega
theorem tail_at {s u : List UInt8} (h : ∃ a, s = a ++ u) : s = s.take (s.length - u.length) ++ u ∧ (s.take (s.length - u.length)).length = s.length - u.length := by
  obtain ⟨a, rfl⟩ := h
  have : (a ++ u).length - u.length = a.length := by simp
  rw [this, List.take_left']
  · simp
  · rfl
theorem trimB_suf (c : UInt8) : ∀ l, ∃ a, l = a ++ trimB c l
  | [] => ⟨[], rfl⟩
  | x :: l => by
    unfold trimB
    cases x == c with
    | true => obtain ⟨a, h⟩ := trimB_suf c l; exact ⟨x :: a, by rw [List.cons_append, ← h]⟩
    | false => exact ⟨[], rfl⟩
theorem wR_suf (l : List UInt8) : ∃ a, l = a ++ wR l := ⟨wF l, (wFR l).symm⟩
theorem suf_trans {s u v : List UInt8} (h1 : ∃ a, s = a ++ u) (h2 : ∃ a, u = a ++ v) : ∃ a, s = a ++ v := by
  obtain ⟨a, rfl⟩ := h1
  obtain ⟨b, rfl⟩ := h2
  exact ⟨a ++ b, by simp⟩
def nxt (s : List UInt8) : List UInt8 := wR (trimB 32 s)
theorem nxt_suf (l : List UInt8) : ∃ a, l = a ++ nxt l := suf_trans (trimB_suf 32 l) (wR_suf _)
theorem bh_round (s u : List UInt8) (n : Nat) (x4 : Int) (hx : x4 < 2) (hs : s.length < 100000) (hu : ∃ a, s = a ++ u) : ref10_behind.p1 fuel (n + 1) s (((s.length - u.length : Nat)) : Int) x4 = ref10_behind.p1 fuel n s (((s.length - (nxt u).length : Nat)) : Int) (w64 (x4 + 1)) := by
  have e1 : ref10_behind.p1 fuel (n + 1) s (((s.length - u.length : Nat)) : Int) x4 = ref10_behind.t1 (ref10_behind.p2 fuel (ref10_behind.p1 fuel n) fuel) (ref10_behind.p3 fuel) s (((s.length - u.length : Nat)) : Int) x4 := rfl
  rw [e1]
  unfold ref10_behind.t1
  rw [iteB_pos (decide_eq_true hx)]
  obtain ⟨h1, h2⟩ := tail_at hu
  have hul : u.length ≤ s.length := by have := congrArg List.length h1; rw [List.length_append] at this; omega
  have k2 := bh2 (ref10_behind.p1 fuel n) x4 u (s.take (s.length - u.length)) fuel (by rw [← h1]; exact hs) (by have := fuel_gt u.length (by omega); omega)
  rw [← h1, h2] at k2
  rw [k2]
  obtain ⟨h3, h4⟩ := tail_at (suf_trans hu (trimB_suf 32 u))
  have k7 := bh7 (ref10_behind.p1 fuel n) x4 (trimB 32 u) (s.take (s.length - (trimB 32 u).length)) fuel (by rw [← h3]; exact hs) (by have := fuel_gt (trimB 32 u).length (by have := trimB_len 32 u; omega); omega)
  rw [← h3, h4] at k7
  exact k7
def u2 (s : List UInt8) : List UInt8 := nxt s
def u3 (s : List UInt8) : List UInt8 := trimB 32 (u2 s)
def u4 (s : List UInt8) : List UInt8 := nxt (u2 s)
theorem behind_eq (s : List UInt8) (hs : s.length < 100000) : s_ref10_behind (s, ()) = some ((u4 s).tail, ()) := by
  have e : s_ref10_behind (s, ()) = ref10_behind.p1 fuel fuel s 0 0 := rfl
  obtain ⟨z, hz⟩ := fuel10
  have e0 : ((0 : Int)) = (((s.length - s.length : Nat)) : Int) := by omega
  have r1 := bh_round s s (z + 9) 0 (by omega) hs ⟨[], rfl⟩
  have r2 := bh_round s (nxt s) (z + 8) 1 (by omega) hs (nxt_suf s)
  rw [show w64 (0 + 1) = 1 from rfl] at r1
  rw [show w64 (1 + 1) = 2 from rfl] at r2
  have e3 : ref10_behind.p1 fuel (z + 8) s (((s.length - (u4 s).length : Nat)) : Int) 2 = ref10_behind.t3 s (((s.length - (u4 s).length : Nat)) : Int) := rfl
  have k : s_ref10_behind (s, ()) = ref10_behind.t3 s (((s.length - (u4 s).length : Nat)) : Int) := by
    rw [e]
    have : ref10_behind.p1 fuel fuel s 0 0 = ref10_behind.p1 fuel (z + 9 + 1) s (((s.length - s.length : Nat)) : Int) 0 := by rw [← e0, hz]
    rw [this, r1]
    exact r2.trans e3
  rw [k]
  unfold ref10_behind.t3
  have hsuf : ∃ a, s = a ++ u4 s := suf_trans (nxt_suf s) (nxt_suf _)
  obtain ⟨a, ha⟩ := hsuf
  have hl : s.length = a.length + (u4 s).length := by have := congrArg List.length ha; rw [List.length_append] at this; exact this
  cases hu : u4 s with
  | nil => rw [iteB_pos (decide_eq_true (by simp only [List.length_nil]; omega))]; rfl
  | cons x t =>
    rw [hu] at ha hl
    simp only [List.length_cons] at hl
    have hxl : (x :: t).length = t.length + 1 := rfl
    have hw : w64 ((s.length - (x :: t).length : Nat) + 1 : Int) = ((s.length - (t.length + 1) + 1 : Nat) : Int) := w64_succ (by omega)
    rw [iteB_neg (decide_eq_false (by omega)), mustR_dec (by rw [hw]; omega), mustR_dec (by rw [hw]; omega), hw, Int.toNat_natCast, List.take_length]
    have hd : s.length - (t.length + 1) + 1 = a.length + 1 := by omega
    rw [hd, ha]
    congr 2
    rw [show a ++ x :: t = (a ++ [x]) ++ t by simp, List.drop_left']
    · rfl
    · simp
end Go.Proofs.YtogipciicekmoaaDoor.Vm.Gr
namespace Go.Proofs.YtogipciicekmoaaDoor.Vm.Gr
open Go Go.Proofs.YtogipciicekmoaaDoor.Vm
set_option linter.unusedVariables false
set_option maxRecDepth 100000
theorem word_split (x : List UInt8) : (32 ∉ x ∧ wF x = x ∧ wR x = []) ∨ ∃ a b, 32 ∉ a ∧ x = a ++ 32 :: b ∧ wF x = a ∧ wR x = 32 :: b := by
  induction x with
  | nil => exact .inl ⟨by simp, rfl, rfl⟩
  | cons y x ih =>
    rw [wF_cons, wR_cons]
    by_cases h : y = 32
    · subst h
      exact .inr ⟨[], x, by simp, rfl, by simp, by simp⟩
    · simp only [if_neg h]
      rcases ih with ⟨h1, h2, h3⟩ | ⟨a, b, h1, h2, h3, h4⟩
      · exact .inl ⟨by simp only [List.mem_cons, not_or]; exact ⟨fun e => h e.symm, h1⟩, by rw [h2], h3⟩
      · exact .inr ⟨y :: a, b, by simp only [List.mem_cons, not_or]; exact ⟨fun e => h e.symm, h1⟩, by rw [h2]; rfl, by rw [h3], h4⟩
theorem cut_eq (x : List UInt8) (hx : x.length < 1000000) : s_strings_Cut (x, ([32], ())) = some ((wF x, ((wR x).tail, !decide (wR x = []))), ()) := by
  have e : s_strings_Cut (x, ([32], ())) = bindR (internal_stringslite_Cut.t0 (x, ([32], ()))) fun r1 => some ((r1.1.1, (r1.1.2.1, r1.1.2.2)), ()) := rfl
  have ei : s_stringslite_Index (x, ([32], ())) = some (findB 32 x 0, ()) := rfl
  rw [e]
  unfold internal_stringslite_Cut.t0
  simp only [ei, bindR_val]
  rcases findB_spec 32 x 0 with ⟨h1, h2⟩ | ⟨k, h1, h2, h3⟩
  · rw [show findB 32 x 0 = -1 from h2, iteB_neg (by decide), bindR_val]
    rcases word_split x with ⟨k1, k2, k3⟩ | ⟨a, b, k1, k2, k3, k4⟩
    · rw [k2, k3]; rfl
    · exact absurd (by rw [k2]; simp) h1
  · rw [Nat.zero_add] at h3
    have h3 : findB 32 x 0 = (k : Int) := h3
    have hk : k < x.length := (List.getElem?_eq_some_iff.1 h2).1
    have hw1 : w64 ((k : Int) + ((List.length ([32] : List UInt8) : Nat) : Int)) = ((k + 1 : Nat) : Int) := w64_succ (by omega)
    simp only [h3]
    rw [iteB_pos (decide_eq_true (by omega)), mustR_dec (by omega), mustR_dec (by omega), mustR_dec (by rw [hw1]; omega), mustR_dec (by rw [hw1]; omega), hw1, bindR_val, Int.toNat_natCast, Int.toNat_natCast, List.take_length, List.drop_zero]
    rcases word_split x with ⟨k1, k2, k3⟩ | ⟨a, b, k1, k2, k3, k4⟩
    · exact absurd (List.mem_of_getElem? h2) k1
    · have hka : k = a.length := by
        rcases Nat.lt_trichotomy k a.length with q | q | q
        · rw [k2, List.getElem?_append_left q] at h2
          exact absurd (List.mem_of_getElem? h2) k1
        · exact q
        · exfalso
          apply h1
          have : (x.take k)[a.length]? = some 32 := by
            rw [List.getElem?_take_of_lt q, k2, List.getElem?_append_right (Nat.le_refl _)]
            simp
          exact List.mem_of_getElem? this
      rw [k3, k4, k2, hka]
      have t1 : (a ++ 32 :: b).take a.length = a := List.take_left' rfl
      have t2 : (a ++ 32 :: b).drop (a.length + 1) = b := by
        rw [show a ++ 32 :: b = (a ++ [32]) ++ b by simp, List.drop_left']
        simp
      rw [t1, t2]
      rfl
theorem trim_tail (x : List UInt8) : trimB 32 (wR x).tail = trimB 32 (wR x) := by
  rcases word_split x with ⟨k1, k2, k3⟩ | ⟨a, b, k1, k2, k3, k4⟩
  · rw [k3]; rfl
  · rw [k4]; rfl
theorem trimL_eq (x : List UInt8) : s_TrimLeft (x, ([32], ())) = some (trimB 32 x, ()) := rfl
theorem rest_eq (s : List UInt8) (hs : s.length < 100000) : s_gram_rest (s, ()) = some ((wF (u3 s), ((u4 s).tail, !decide ((u4 s).tail = []))), ()) := by
  have e : s_gram_rest (s, ()) = gram_rest.t0 (s, ()) := rfl
  have l1 := trimB_len 32 s
  have l2 := wR_len (trimB 32 s)
  have l3 := trimB_len 32 (wR (trimB 32 s))
  rw [e]
  unfold gram_rest.t0
  simp only [trimL_eq, bindR_val, cut_eq _ (show (trimB 32 s).length < 1000000 by omega), trim_tail]
  rw [cut_eq _ (by omega)]
  simp only [bindR_val]
  show iteB (!decide (wR (u3 s) = [])) (some ((wF (u3 s), ((u4 s).tail, !decide ((u4 s).tail = []))), ())) (some ((wF (u3 s), ((u4 s).tail, false)), ())) = _
  by_cases h : wR (u3 s) = []
  · have h4 : u4 s = [] := h
    rw [decide_eq_true h, h4]; rfl
  · rw [decide_eq_false h]; rfl
theorem trim_head (s : List UInt8) : trimB 32 s = [] ∨ ∃ x t, trimB 32 s = x :: t ∧ x ≠ 32 := by
  induction s with
  | nil => exact .inl rfl
  | cons x s ih =>
    rw [trimB_cons]
    by_cases h : x = 32
    · rw [if_pos h]; exact ih
    · rw [if_neg h]; exact .inr ⟨x, s, rfl, h⟩
theorem Wd_blank (s : List UInt8) : Wd (32 :: s) = Wd s := by
  unfold Wd
  have : cutL 32 (32 :: s) = [] :: cutL 32 s := by
    conv => lhs; unfold cutL
    rw [if_pos rfl]
  rw [this]
  rfl
theorem Wd_trim (s : List UInt8) : Wd (trimB 32 s) = Wd s := by
  induction s with
  | nil => rfl
  | cons x s ih =>
    rw [trimB_cons]
    by_cases h : x = 32
    · rw [if_pos h, ih, h, Wd_blank]
    · rw [if_neg h]
theorem Wd_word (x : UInt8) (t : List UInt8) (h : x ≠ 32) : Wd (x :: t) = wF (x :: t) :: Wd (wR (x :: t)) := by
  rcases word_split (x :: t) with ⟨k1, k2, k3⟩ | ⟨a, b, k1, k2, k3, k4⟩
  · rw [k2, k3]
    unfold Wd
    rw [cutL_none 32 _ k1]
    rfl
  · rw [k3, k4, k2, Wd_blank]
    unfold Wd
    rw [cutL_app 32 a b k1, List.filter_cons]
    have ha : a ≠ [] := by
      intro e
      subst e
      rw [List.nil_append] at k2
      exact h (List.cons.inj k2).1
    rw [if_pos (by simp [wd, ha])]
theorem tok_facts (s : List UInt8) (h : (u4 s).tail ≠ []) : ∃ w l, Wd s = w :: wF (u3 s) :: l := by
  have h4 : u4 s ≠ [] := fun e => h (by rw [e]; rfl)
  rcases trim_head s with e | ⟨x, t, e, hx⟩
  · exfalso
    apply h4
    unfold u4 u2 nxt
    rw [e]
    rfl
  · rcases trim_head (u2 s) with e2 | ⟨y, r, e2, hy⟩
    · exfalso
      apply h4
      show wR (trimB 32 (u2 s)) = []
      rw [e2]
      rfl
    · refine ⟨wF (x :: t), Wd (wR (y :: r)), ?_⟩
      rw [← Wd_trim s, e, Wd_word x t hx]
      have : wR (x :: t) = u2 s := by unfold u2 nxt; rw [e]
      rw [this, ← Wd_trim (u2 s), e2, Wd_word y r hy]
      have : u3 s = y :: r := e2
      rw [this]
theorem cutL_mem (c : UInt8) : ∀ (s p : List UInt8), p ∈ cutL c s → p.length ≤ s.length
  | [], p, h => by simp [cutL] at h; subst h; exact Nat.le_refl _
  | x :: s, p, h => by
    unfold cutL at h
    by_cases hx : x = c
    · rw [if_pos hx] at h
      rcases List.mem_cons.1 h with e | e
      · subst e; exact Nat.zero_le _
      · have := cutL_mem c s p e; simp only [List.length_cons]; omega
    · rw [if_neg hx] at h
      split at h
      · cases h
      · rename_i q ps e
        have ih := cutL_mem c s
        rw [e] at ih
        rcases List.mem_cons.1 h with e2 | e2
        · subst e2
          have := ih q (by simp)
          simp only [List.length_cons]; omega
        · have := ih p (by simp [e2])
          simp only [List.length_cons]; omega
theorem Wd_mem {s p : List UInt8} (h : p ∈ Wd s) : p ≠ [] ∧ p.length ≤ s.length := by
  unfold Wd at h
  obtain ⟨h1, h2⟩ := List.mem_filter.1 h
  exact ⟨by simpa [wd] using h2, cutL_mem 32 s p h1⟩
theorem Wd_len (s : List UInt8) : (Wd s).length ≤ s.length + 1 := Nat.le_trans (List.length_filter_le _ _) (cutL_small 32 s)
end Go.Proofs.YtogipciicekmoaaDoor.Vm.Gr
namespace Go.Proofs.YtogipciicekmoaaDoor.Vm.Gr
open Go Go.Proofs.YtogipciicekmoaaDoor.Vm
set_option linter.unusedVariables false
set_option maxRecDepth 100000
abbrev Gm : Type := D11
abbrev Rs : Type := Int × (Gm × Bool)
def zT : D2 := ([], ([], (false, 0)))
def lastI (T : D3) (nm : List UInt8) : Nat → Option Nat
  | 0 => none
  | n + 1 => if (T.getD n zT).1 = nm then some n else lastI T nm n
def setC (T : D3) (i : Nat) (v : Int) : D3 := T.set i ((T.getD i zT).1, ((T.getD i zT).2.1, ((T.getD i zT).2.2.1, v)))
def wSkip : List UInt8 := [115, 107, 105, 112]
def tokS (l : D4) (line : List UInt8) (g : Gm) (b : Bool) : Rs :=
  if (u4 line).tail = [] then (30, (g, b)) else if nameB (l.getD 1 []) = false then (31, (g, b)) else if g.1.length = 32 then (21, (g, b))
  else (0, ((g.1 ++ [(l.getD 1 [], ((u4 line).tail, (decide (l.getD 0 [] = wSkip), 0)))], g.2), b))
def clsBad (l : D4) : Prop := l.length ≠ 3 ∨ (l.getD 2 []).length ≠ 1 ∨ byteAt (l.getD 2 []) 0 < 49 ∨ 57 < byteAt (l.getD 2 []) 0
instance (l : D4) : Decidable (clsBad l) := inferInstanceAs (Decidable (_ ∨ _))
def clsS (l : D4) (g : Gm) (b : Bool) : Rs :=
  if clsBad l then (30, (g, b)) else match lastI g.1 (l.getD 1 []) g.1.length with
    | none => (31, (g, b))
    | some i => (0, ((setC g.1 i (byteAt (l.getD 2 []) 0 - 48), g.2), b))
def staS (l : D4) (g : Gm) (b : Bool) : Rs :=
  if l.length ≠ 2 then (30, (g, b)) else if nameB (l.getD 1 []) = false then (31, (g, b)) else if b = true then (32, (g, b)) else (0, ((g.1, (l.getD 1 [], g.2.2)), true))
def rulS (l : D4) (g : Gm) (b : Bool) : Rs :=
  if l.length < 3 ∨ l.getD 2 [] ≠ [58] then (30, (g, b)) else if nameB (l.getD 1 []) = false ∨ (l.drop 3).all nameB = false then (31, (g, b)) else if 11 < l.length ∨ g.2.2.1.length = 64 then (21, (g, b))
  else (0, ((g.1, (g.2.1, (g.2.2.1 ++ [(l.getD 1 [], l.drop 3)], g.2.2.2))), b))
def arS (k : Int) (n : Nat) : Bool := decide (k = 1 ∧ (n = 2 ∨ n = 3) ∨ k = 2 ∧ n = 4 ∨ k = 3 ∧ n = 2)
def notS (k : Int) (l : D4) (g : Gm) (b : Bool) : Rs :=
  if arS k (l.length - 1) = false then (30, (g, b)) else if (l.drop 1).all nameB = false then (31, (g, b)) else if g.2.2.2.length = 16 then (21, (g, b))
  else (0, ((g.1, (g.2.1, (g.2.2.1, g.2.2.2 ++ [(k, l.drop 1)]))), b))
def wTok : List UInt8 := [116, 111, 107, 101, 110]
def wCls : List UInt8 := [99, 108, 97, 115, 115]
def wSta : List UInt8 := [115, 116, 97, 114, 116]
def wRul : List UInt8 := [114, 117, 108, 101]
def wLst : List UInt8 := [108, 105, 115, 116]
def wDel : List UInt8 := [100, 101, 108, 105, 109]
def wHol : List UInt8 := [104, 111, 108, 101]
def kindOf (w : List UInt8) : Int := if w = wLst then 1 else if w = wDel then 2 else 3
def wordS (w : List UInt8) (l : D4) (line : List UInt8) (g : Gm) (b : Bool) : Rs :=
  if w = wTok ∨ w = wSkip then tokS l line g b else if w = wCls then clsS l g b else if w = wSta then staS l g b else if w = wRul then rulS l g b
  else if w = wLst ∨ w = wDel ∨ w = wHol then notS (kindOf w) l g b else (30, (g, b))
def stepL (line : List UInt8) (g : Gm) (b : Bool) : Rs := match Wd line with
  | [] => (0, (g, b))
  | w :: l => if w.getD 0 0 = 35 then (0, (g, b)) else wordS w (w :: l) line g b
structure Sm (g : Gm) : Prop where
  t : g.1.length ≤ 32
  p : g.2.2.1.length ≤ 64
  n : g.2.2.2.length ≤ 16
def outG (r : Rs) : Option D16 := some (r.1, (r.2, ()))
theorem getD0 {α : Type} {w : α} {l : List α} (d : α) : (w :: l).getD 0 d = w := rfl
theorem token_eq (line : List UInt8) (hs : line.length < 100000) (g : Gm) (b : Bool) (hg : Sm g) (hne : Wd line ≠ []) : s_gram_reading_token ((g, b), (line, ())) = outG (tokS (Wd line) line g b) := by
  have e : s_gram_reading_token ((g, b), (line, ())) = gram_reading_token.t0 ((g, b), (line, ())) := rfl
  rw [e]
  unfold gram_reading_token.t0 tokS
  rw [rest_eq line hs, bindR_val]
  simp only [notB_eq, Bool.not_not]
  by_cases h1 : (u4 line).tail = []
  · rw [decide_eq_true h1, iteB_true, if_pos h1]; rfl
  · rw [decide_eq_false h1, iteB_false, if_neg h1, isName_eq, bindR_val]
    obtain ⟨w, l, hw⟩ := tok_facts line h1
    have hn : (Wd line).getD 1 [] = wF (u3 line) := by rw [hw]; rfl
    rw [hn]
    cases h2 : nameB (wF (u3 line)) with
    | false => rfl
    | true =>
      rw [Bool.not_true, iteB_false, if_neg (by simp)]
      by_cases h3 : g.1.length = 32
      · rw [iteB_pos (decide_eq_true (by omega)), if_pos h3]; rfl
      · rw [iteB_neg (decide_eq_false (by omega)), if_neg h3, words_eq line hs, bindR_val]
        have hl : 0 < (Wd line).length := List.length_pos_iff.2 hne
        rw [withinR_zero hl, mustR_pos (room_ok (by have := hg.t; simp; omega))]
        rfl
theorem less1 (x y : UInt8) : Op.bytesLess [x] [y] = decide (x.toNat < y.toNat) := by
  simp [Op.bytesLess, UInt8.lt_iff_toNat_lt]
theorem class_loop (l : D4) (x : UInt8) (h1 : 2 < l.length) (h2 : l.getD 2 [] = [x]) (hx : 49 ≤ x.toNat ∧ x.toNat ≤ 57) (g : Gm) (b : Bool) (hg : g.1.length ≤ 32) : ∀ (j n : Nat), j < n → j ≤ g.1.length →
    gram_reading_class.p3 fuel n l ((j : Int) - 1) (g, b) = outG (match lastI g.1 (l.getD 1 []) j with | none => (31, (g, b)) | some i => (0, ((setC g.1 i ((x.toNat : Int) - 48), g.2), b)))
  | 0, n + 1, _, _ => by
    have e1 : gram_reading_class.p3 fuel (n + 1) l (((0 : Nat) : Int) - 1) (g, b) = gram_reading_class.t3 (gram_reading_class.p3 fuel n) (gram_reading_class.p4 fuel) l (((0 : Nat) : Int) - 1) (g, b) := rfl
    rw [e1]
    unfold gram_reading_class.t3
    rw [iteB_neg (decide_eq_false (by omega))]
    rfl
  | j + 1, n + 1, hn, hj => by
    have e0 : (((j + 1 : Nat) : Int) - 1) = (j : Int) := by omega
    rw [e0]
    have e1 : gram_reading_class.p3 fuel (n + 1) l (j : Int) (g, b) = gram_reading_class.t3 (gram_reading_class.p3 fuel n) (gram_reading_class.p4 fuel) l (j : Int) (g, b) := rfl
    rw [e1]
    unfold gram_reading_class.t3
    dsimp only
    rw [iteB_pos (decide_eq_true (by omega)), withinR_nat (by omega), withinR_pos (by omega) (by omega)]
    simp only [show ((1 : Int)).toNat = 1 from rfl]
    by_cases h : (g.1.getD j zT).1 = l.getD 1 []
    · have hL : lastI g.1 (l.getD 1 []) (j + 1) = some j := by unfold lastI; rw [if_pos h]
      have hd : decide ((List.getD g.1 j (([] : List UInt8), (([] : List UInt8), (false, (0 : Int))))).1 = List.getD l 1 []) = true := decide_eq_true h
      rw [hd, iteB_true, withinR_pos (by omega) (by omega), withinR_pos (by omega) (by rw [show ((2 : Int)).toNat = 2 from rfl, h2]; simp), withinR_nat (by omega), hL]
      have hv : byteAt (List.getD l ((2 : Int)).toNat []) ((0 : Int)).toNat = (x.toNat : Int) := by
        rw [show ((2 : Int)).toNat = 2 from rfl, h2]; rfl
      have hw : w64 (w8 (byteAt (List.getD l ((2 : Int)).toNat []) ((0 : Int)).toNat - 48)) = (x.toNat : Int) - 48 := by
        rw [hv, w8_id (by omega) (by omega), w64_id (by omega) (by omega)]
      rw [hw]
      rfl
    · have hL : lastI g.1 (l.getD 1 []) (j + 1) = lastI g.1 (l.getD 1 []) j := by conv => lhs; unfold lastI; rw [if_neg h]
      have hd : decide ((List.getD g.1 j (([] : List UInt8), (([] : List UInt8), (false, (0 : Int))))).1 = List.getD l 1 []) = false := decide_eq_false h
      rw [hd, iteB_false, hL, w64_id (by omega) (by omega)]
      exact class_loop l x h1 h2 hx g b hg j n (by omega) (by omega)
theorem class_eq (line : List UInt8) (hs : line.length < 100000) (g : Gm) (b : Bool) (hg : Sm g) : s_gram_reading_class ((g, b), (line, ())) = outG (clsS (Wd line) g b) := by
  have e : s_gram_reading_class ((g, b), (line, ())) = gram_reading_class.t0 (gram_reading_class.p1 fuel) ((g, b), (line, ())) := rfl
  rw [e]
  unfold gram_reading_class.t0
  rw [words_eq line hs, bindR_val]
  simp only
  generalize Wd line = l
  have p1 : ∀ c, gram_reading_class.p1 fuel l c (g, b) = iteB c (some (30, ((g, b), ()))) (gram_reading_class.p3 fuel fuel l (w64 (((g.1.length : Nat) : Int) - 1)) (g, b)) := fun c => rfl
  have bad : clsBad l → gram_reading_class.p1 fuel l true (g, b) = outG (clsS l g b) := fun h => by
    rw [p1, iteB_true]; unfold clsS; rw [if_pos h]; rfl
  by_cases h1 : l.length = 3
  · rw [iteB_neg (by rw [decide_eq_true (by omega)]; rfl), withinR_pos (by omega) (by omega)]
    simp only [show ((2 : Int)).toNat = 2 from rfl]
    by_cases h2 : (l.getD 2 []).length = 1
    · obtain ⟨x, hx⟩ : ∃ x, l.getD 2 [] = [x] := by
        match hl : l.getD 2 [], h2 with
        | [x], _ => exact ⟨x, rfl⟩
      rw [iteB_neg (by rw [decide_eq_true (by omega)]; rfl), withinR_pos (by omega) (by omega)]
      simp only [show ((2 : Int)).toNat = 2 from rfl, hx, less1]
      have hb : byteAt (l.getD 2 []) 0 = (x.toNat : Int) := by rw [hx]; rfl
      have c49 : (49 : UInt8).toNat = 49 := rfl
      have c57 : (57 : UInt8).toNat = 57 := rfl
      rw [c49]
      by_cases h3 : x.toNat < 49
      · rw [decide_eq_true h3, iteB_true, bad (.inr (.inr (.inl (by rw [hb]; omega))))]
      · rw [decide_eq_false h3, iteB_false, withinR_pos (by omega) (by omega)]
        simp only [show ((2 : Int)).toNat = 2 from rfl, hx, less1]
        rw [c57]
        have h4 : (!(decide (x.toNat < 57) || decide ([x] = [57]))) = decide (57 < x.toNat) := by
          have : decide ([x] = [57]) = decide (x.toNat = 57) := decide_eq_decide.2 ⟨fun h => by rw [(List.cons.inj h).1]; rfl, fun h => by rw [ext8 (a := x) (b := 57) (by rw [h]; rfl)]⟩
          rw [this]
          by_cases q : 57 < x.toNat
          · rw [decide_eq_true q, decide_eq_false (by omega), decide_eq_false (by omega)]; rfl
          · rw [decide_eq_false q]
            by_cases q2 : x.toNat = 57
            · rw [decide_eq_true q2]; simp
            · rw [decide_eq_true (show x.toNat < 57 by omega)]; rfl
        rw [h4]
        by_cases h5 : 57 < x.toNat
        · rw [decide_eq_true h5, bad (.inr (.inr (.inr (by rw [hb]; omega))))]
        · rw [decide_eq_false h5, p1, iteB_false, w64_id (by have := hg.t; omega) (by have := hg.t; omega)]
          have hnb : ¬ clsBad l := by
            unfold clsBad
            rw [hb]
            omega
          rw [class_loop l x (by omega) hx (by omega) g b hg.t g.1.length fuel (by have := hg.t; have := fuel_gt g.1.length (by omega); omega) (Nat.le_refl _)]
          unfold clsS
          rw [if_neg hnb, hb]
    · rw [iteB_pos (by rw [decide_eq_false (by omega)]; rfl), bad (.inr (.inl h2))]
  · rw [iteB_pos (by rw [decide_eq_false (by omega)]; rfl), bad (.inl h1)]
end Go.Proofs.YtogipciicekmoaaDoor.Vm.Gr
namespace Go.Proofs.YtogipciicekmoaaDoor.Vm.Gr
open Go Go.Proofs.YtogipciicekmoaaDoor.Vm
set_option linter.unusedVariables false
set_option maxRecDepth 100000
theorem nat1 : ((1 : Int)).toNat = 1 := rfl
theorem nat2 : ((2 : Int)).toNat = 2 := rfl
theorem nat3 : ((3 : Int)).toNat = 3 := rfl
theorem start_eq (line : List UInt8) (hs : line.length < 100000) (g : Gm) (b : Bool) : s_gram_reading_start ((g, b), (line, ())) = outG (staS (Wd line) g b) := by
  have e : s_gram_reading_start ((g, b), (line, ())) = gram_reading_start.t0 ((g, b), (line, ())) := rfl
  rw [e]
  unfold gram_reading_start.t0 staS
  rw [words_eq line hs, bindR_val]
  dsimp only
  generalize Wd line = l
  by_cases h1 : l.length = 2
  · rw [iteB_neg (by rw [decide_eq_true (by omega)]; rfl), if_neg (by simpa using h1), withinR_pos (by omega) (by omega), nat1, isName_eq, bindR_val]
    cases h2 : nameB (l.getD 1 []) with
    | false => rfl
    | true =>
      rw [notB_eq, Bool.not_true, iteB_false, if_neg (by simp)]
      cases b with
      | true => rfl
      | false =>
        rw [iteB_false, if_neg (by simp), withinR_pos (by omega) (by omega), nat1]
        rfl
  · rw [iteB_pos (by rw [decide_eq_false (by omega)]; rfl), if_pos h1]; rfl
theorem rule_eq (line : List UInt8) (hs : line.length < 100000) (g : Gm) (b : Bool) (hg : Sm g) : s_gram_reading_rule ((g, b), (line, ())) = outG (rulS (Wd line) g b) := by
  have e : s_gram_reading_rule ((g, b), (line, ())) = gram_reading_rule.t0 (gram_reading_rule.p1 fuel) ((g, b), (line, ())) := rfl
  rw [e]
  unfold gram_reading_rule.t0
  rw [words_eq line hs, bindR_val]
  dsimp only
  have hl := Wd_len line
  generalize Wd line = l at hl
  have p1t : gram_reading_rule.p1 fuel l true (g, b) = some (30, ((g, b), ())) := rfl
  by_cases h1 : l.length < 3
  · rw [iteB_pos (decide_eq_true (by omega)), p1t]
    unfold rulS
    rw [if_pos (.inl h1)]
    rfl
  rw [iteB_neg (decide_eq_false (by omega)), withinR_pos (by omega) (by omega), nat2]
  by_cases h2 : l.getD 2 [] = [58]
  · rw [h2, decide_eq_true rfl]
    have p1f : gram_reading_rule.p1 fuel l (!true) (g, b) = gram_reading_rule.t1 (gram_reading_rule.p2 fuel) l false (g, b) := rfl
    have hd3 : List.drop ((3 : Int)).toNat (List.take l.length l) = l.drop 3 := by rw [nat3, List.take_length]
    rw [p1f]
    unfold gram_reading_rule.t1 rulS
    rw [iteB_false, withinR_pos (by omega) (by omega), nat1, isName_eq, bindR_val, if_neg (show ¬ (l.length < 3 ∨ l.getD 2 [] ≠ [58]) from fun q => q.elim h1 fun q => q h2)]
    have p2t : gram_reading_rule.p2 fuel l true (g, b) = some (31, ((g, b), ())) := rfl
    cases h3 : nameB (l.getD 1 []) with
    | false =>
      rw [notB_eq, Bool.not_false, iteB_true, p2t, if_pos (.inl rfl)]; rfl
    | true =>
      rw [notB_eq, Bool.not_true, iteB_false, mustR_dec (by omega), mustR_dec (by omega), hd3, areNames_eq _ (by rw [List.length_drop]; omega), bindR_val]
      cases h4 : (l.drop 3).all nameB with
      | false => rw [notB_eq, Bool.not_false, p2t, if_pos (.inr rfl)]; rfl
      | true =>
        rw [notB_eq, Bool.not_true, if_neg (by simp)]
        have p2f : gram_reading_rule.p2 fuel l false (g, b) = iteB (decide ((8 : Int) < w64 (((l.length : Nat) : Int) - 3))) (gram_reading_rule.p3 fuel l true (g, b)) (gram_reading_rule.p3 fuel l (decide (((g.2.2.1.length : Nat) : Int) = 64)) (g, b)) := rfl
        have p3t : gram_reading_rule.p3 fuel l true (g, b) = some (21, ((g, b), ())) := rfl
        rw [p2f, w64_id (by omega) (by omega)]
        by_cases h5 : 11 < l.length
        · rw [iteB_pos (decide_eq_true (by omega)), p3t, if_pos (.inl h5)]; rfl
        · rw [iteB_neg (decide_eq_false (by omega))]
          by_cases h6 : g.2.2.1.length = 64
          · rw [decide_eq_true (by omega), p3t, if_pos (.inr h6)]; rfl
          · have p3f : gram_reading_rule.p3 fuel l false (g, b) = gram_reading_rule.t4 l (g, b) := rfl
            rw [decide_eq_false (by omega), p3f, if_neg (by omega)]
            unfold gram_reading_rule.t4
            dsimp only
            rw [withinR_pos (by omega) (by omega), nat1, mustR_dec (by omega), mustR_dec (by omega), hd3, mustR_pos (room_ok (by have := hg.p; simp; omega))]
            rfl
  · rw [decide_eq_false h2]
    show gram_reading_rule.p1 fuel l true (g, b) = _
    rw [p1t]
    unfold rulS
    rw [if_pos (.inr h2)]
    rfl
theorem arity_eq (k : Int) (n : Nat) : s_gram_arity (k, (((n : Nat) : Int), ())) = some (arS k n, ()) := by
  have e : s_gram_arity (k, (((n : Nat) : Int), ())) = gram_arity.t0 (k, (((n : Nat) : Int), ())) := rfl
  rw [e]
  unfold gram_arity.t0 arS
  dsimp only
  by_cases h1 : k = 1
  · subst h1
    rw [iteB_pos (decide_eq_true rfl)]
    by_cases h2 : n = 2
    · subst h2; rfl
    · rw [iteB_neg (decide_eq_false (by omega))]
      congr 2
      exact decide_eq_decide.2 (by omega)
  · rw [iteB_neg (decide_eq_false h1)]
    by_cases h2 : k = 2
    · subst h2
      rw [iteB_pos (decide_eq_true rfl)]
      congr 2
      exact decide_eq_decide.2 (by omega)
    · rw [iteB_neg (decide_eq_false h2)]
      by_cases h3 : k = 3
      · subst h3
        rw [iteB_pos (decide_eq_true rfl)]
        congr 2
        exact decide_eq_decide.2 (by omega)
      · rw [iteB_neg (decide_eq_false h3), decide_eq_false (by omega)]
theorem kinds_at {w : List UInt8} (h : w = wLst ∨ w = wDel ∨ w = wHol) : (bindR (s_kinds ()) fun r3 => s_slices_Index (r3.1, (w, ()))) = some (kindOf w, ()) := by
  rcases h with rfl | rfl | rfl <;> kernel_rfl
theorem note_eq (line : List UInt8) (hs : line.length < 100000) (g : Gm) (b : Bool) (hg : Sm g) (w : List UInt8) (l : D4) (hw : Wd line = w :: l) (hk : w = wLst ∨ w = wDel ∨ w = wHol) : s_gram_reading_note ((g, b), (line, ())) = outG (notS (kindOf w) (w :: l) g b) := by
  have e : s_gram_reading_note ((g, b), (line, ())) = gram_reading_note.t0 ((g, b), (line, ())) := rfl
  rw [e]
  unfold gram_reading_note.t0
  have hl := Wd_len line
  rw [words_eq line hs, bindR_val, hw]
  rw [hw] at hl
  dsimp only
  have hk3 : 1 ≤ kindOf w ∧ kindOf w ≤ 3 := by
    unfold kindOf
    split
    · omega
    · split <;> omega
  have h8 : w8 (kindOf w) = kindOf w := w8_id (by omega) (by omega)
  obtain ⟨q, hq1, hq2⟩ : ∃ q, s_kinds () = some (q, ()) ∧ s_slices_Index (q, (w, ())) = some (kindOf w, ()) := ⟨_, rfl, kinds_at hk⟩
  have hlen : (w :: l).length = l.length + 1 := rfl
  rw [withinR_zero (by omega), getD0, hq1, bindR_val]
  dsimp only
  rw [hq2, bindR_val]
  dsimp only
  have hw1 : w64 ((((w :: l).length : Nat) : Int) - 1) = (((w :: l).length - 1 : Nat) : Int) := by rw [w64_id (by omega) (by omega)]; omega
  have hd1 : List.drop ((1 : Int)).toNat (List.take (w :: l).length (w :: l)) = (w :: l).drop 1 := by rw [nat1, List.take_length]
  rw [h8, hw1, arity_eq, bindR_val]
  unfold notS
  cases h1 : arS (kindOf w) ((w :: l).length - 1) with
  | false => rfl
  | true =>
    rw [notB_eq, Bool.not_true, iteB_false, if_neg (by simp), mustR_dec (by omega), mustR_dec (by omega), hd1, areNames_eq _ (by rw [List.length_drop]; omega), bindR_val]
    cases h2 : ((w :: l).drop 1).all nameB with
    | false => rfl
    | true =>
      rw [notB_eq, Bool.not_true, iteB_false, if_neg (by simp)]
      by_cases h3 : g.2.2.2.length = 16
      · rw [iteB_pos (decide_eq_true (by omega)), if_pos h3]; rfl
      · rw [iteB_neg (decide_eq_false (by omega)), if_neg h3, mustR_dec (by omega), mustR_dec (by omega), mustR_pos (room_ok (by have := hg.n; simp; omega))]
        rfl
theorem prefix_eq (w : List UInt8) (hw : w ≠ []) : s_strings_HasPrefix (w, ([35], ())) = some (decide (w.getD 0 0 = 35), ()) := by
  have e : s_strings_HasPrefix (w, ([35], ())) = bindR (internal_stringslite_HasPrefix.t0 (w, ([35], ()))) fun r1 => some (r1.1, ()) := rfl
  rw [e]
  unfold internal_stringslite_HasPrefix.t0
  dsimp only
  cases w with
  | nil => exact absurd rfl hw
  | cons x w =>
    have h1 : ((List.length ([35] : List UInt8) : Nat) : Int) = 1 := rfl
    rw [h1, iteB_pos (decide_eq_true (by simp only [List.length_cons]; omega)), mustR_dec (by omega), mustR_dec (by simp only [List.length_cons]; omega), nat1, bindR_val]
    congr 2
    exact decide_eq_decide.2 ⟨fun h => (List.cons.inj h).1, fun h => by rw [show x = 35 from h]; rfl⟩
theorem findW_chain (w : List UInt8) : (w = wTok ∧ findW w tabW = 36) ∨ (w = wSkip ∧ findW w tabW = 36) ∨ (w = wCls ∧ findW w tabW = 37) ∨ (w = wSta ∧ findW w tabW = 38) ∨ (w = wRul ∧ findW w tabW = 39) ∨
    ((w = wLst ∨ w = wDel ∨ w = wHol) ∧ findW w tabW = 40) ∨ (w ≠ wTok ∧ w ≠ wSkip ∧ w ≠ wCls ∧ w ≠ wSta ∧ w ≠ wRul ∧ w ≠ wLst ∧ w ≠ wDel ∧ w ≠ wHol ∧ findW w tabW = 0) := by
  by_cases h1 : w = wTok
  · subst h1; exact .inl ⟨rfl, rfl⟩
  by_cases h2 : w = wSkip
  · subst h2; exact .inr (.inl ⟨rfl, rfl⟩)
  by_cases h3 : w = wCls
  · subst h3; exact .inr (.inr (.inl ⟨rfl, rfl⟩))
  by_cases h4 : w = wSta
  · subst h4; exact .inr (.inr (.inr (.inl ⟨rfl, rfl⟩)))
  by_cases h5 : w = wRul
  · subst h5; exact .inr (.inr (.inr (.inr (.inl ⟨rfl, rfl⟩))))
  by_cases h6 : w = wLst
  · subst h6; exact .inr (.inr (.inr (.inr (.inr (.inl ⟨.inl rfl, rfl⟩)))))
  by_cases h7 : w = wDel
  · subst h7; exact .inr (.inr (.inr (.inr (.inr (.inl ⟨.inr (.inl rfl), rfl⟩)))))
  by_cases h8 : w = wHol
  · subst h8; exact .inr (.inr (.inr (.inr (.inr (.inl ⟨.inr (.inr rfl), rfl⟩)))))
  refine .inr (.inr (.inr (.inr (.inr (.inr ⟨h1, h2, h3, h4, h5, h6, h7, h8, ?_⟩)))))
  unfold wTok at h1
  unfold wSkip at h2
  unfold wCls at h3
  unfold wSta at h4
  unfold wRul at h5
  unfold wLst at h6
  unfold wDel at h7
  unfold wHol at h8
  unfold tabW
  simp only [findW, decide_eq_false h1, decide_eq_false h2, decide_eq_false h3, decide_eq_false h4, decide_eq_false h5, decide_eq_false h6, decide_eq_false h7, decide_eq_false h8]
theorem line_eq (line : List UInt8) (hs : line.length < 100000) (g : Gm) (b : Bool) (hg : Sm g) : s_line ((g, b), (line, ())) = outG (stepL line g b) := by
  have e : s_line ((g, b), (line, ())) = bindR (s_gram_words (line, ())) fun q => firstW q.1 ((g, b), (line, ())) := rfl
  rw [e, words_eq line hs, bindR_val]
  unfold stepL
  dsimp only
  cases hw : Wd line with
  | nil => rfl
  | cons w l =>
    have hm : w ∈ Wd line := by rw [hw]; simp
    have hne : Wd line ≠ [] := by rw [hw]; simp
    have e2 : firstW (w :: l) ((g, b), (line, ())) = bindR (s_strings_HasPrefix (w, ([35], ()))) fun h => iteB h.1 (some (0, ((g, b), ()))) (doW (findW w tabW) ((g, b), (line, ()))) := rfl
    rw [e2, prefix_eq w (Wd_mem hm).1, bindR_val]
    dsimp only
    by_cases h0 : w.getD 0 0 = 35
    · rw [decide_eq_true h0, if_pos h0]; rfl
    · rw [decide_eq_false h0, if_neg h0, iteB_false]
      have tk := token_eq line hs g b hg hne
      have cl := class_eq line hs g b hg
      have st := start_eq line hs g b
      have ru := rule_eq line hs g b hg
      rw [hw] at tk cl st ru
      unfold wordS
      rcases findW_chain w with ⟨h, hf⟩ | ⟨h, hf⟩ | ⟨h, hf⟩ | ⟨h, hf⟩ | ⟨h, hf⟩ | ⟨h, hf⟩ | ⟨n1, n2, n3, n4, n5, n6, n7, n8, hf⟩
      · rw [hf, if_pos (.inl h)]; exact tk
      · rw [hf, if_pos (.inr h)]; exact tk
      · rw [hf, h, if_neg (by decide), if_pos rfl, ← h]; exact cl
      · rw [hf, h, if_neg (by decide), if_neg (by decide), if_pos rfl, ← h]; exact st
      · rw [hf, h, if_neg (by decide), if_neg (by decide), if_neg (by decide), if_pos rfl, ← h]; exact ru
      · have k1 : ¬ (w = wTok ∨ w = wSkip) := by rcases h with rfl | rfl | rfl <;> decide
        have k2 : ¬ w = wCls := by rcases h with rfl | rfl | rfl <;> decide
        have k3 : ¬ w = wSta := by rcases h with rfl | rfl | rfl <;> decide
        have k4 : ¬ w = wRul := by rcases h with rfl | rfl | rfl <;> decide
        rw [hf, if_neg k1, if_neg k2, if_neg k3, if_neg k4, if_pos h]
        exact note_eq line hs g b hg w l hw h
      · rw [hf, if_neg (by simp [n1, n2]), if_neg n3, if_neg n4, if_neg n5, if_neg (by simp [n6, n7, n8])]; rfl
end Go.Proofs.YtogipciicekmoaaDoor.Vm.Gr
namespace Go.Proofs.YtogipciicekmoaaDoor.Vm.Gr
open Go Go.Proofs.YtogipciicekmoaaDoor.Vm
set_option linter.unusedVariables false
set_option maxRecDepth 100000
def zG : Gm := ([], ([], ([], [])))
def errR (e : Int) : Option D30 := some ((zG, e), ())
def outR (K : ref10_Read.T1) (L : D4) (i : Nat) (m2 : Gm) (r : Rs) : Option D30 := if r.1 = 0 then K r.2.2 L (w64 ((i : Int) + 1)) m2 r.2.1 else errR r.1
theorem lastI_pos {T : D3} {nm : List UInt8} {j : Nat} (h : (T.getD j zT).1 = nm) : lastI T nm (j + 1) = some j := by unfold lastI; rw [if_pos h]
theorem lastI_neg {T : D3} {nm : List UInt8} {j : Nat} (h : ¬ (T.getD j zT).1 = nm) : lastI T nm (j + 1) = lastI T nm j := by conv => lhs; unfold lastI; rw [if_neg h]
section
variable (K : ref10_Read.T1) (L : D4) (i : Nat) (m2 : Gm)
theorem f8_eq (b : Bool) (e : Int) (g : Gm) : ref10_Read.p8 fuel K b L (i : Int) e m2 g = outR K L i m2 (e, (g, b)) := by
  have e1 : ref10_Read.p8 fuel K b L (i : Int) e m2 g = iteB (!decide (e = 0)) (errR e) (K b L (w64 ((i : Int) + 1)) m2 g) := rfl
  rw [e1]
  unfold outR
  by_cases h : e = 0
  · rw [decide_eq_true h, if_pos h]; rfl
  · rw [decide_eq_false h, if_neg h]; rfl
theorem rtoken_eq (line : List UInt8) (l : D4) (b : Bool) (g : Gm) (hg : Sm g) (hl0 : 0 < l.length) (hll : l.length < 100000) (hl : ∀ p ∈ l, p.length < 100000) (h2 : (u4 line).tail ≠ [] → 2 ≤ l.length) :
    iteB (decide (((l.length : Nat) : Int) < 2)) (ref10_Read.p6 fuel K b L (i : Int) l 0 (u4 line).tail true m2 g) (ref10_Read.p6 fuel K b L (i : Int) l 0 (u4 line).tail (decide ((u4 line).tail = [])) m2 g) = outR K L i m2 (tokS l line g b) := by
  have p6t : ref10_Read.p6 fuel K b L (i : Int) l 0 (u4 line).tail true m2 g = outR K L i m2 (30, (g, b)) := (f8_eq K L i m2 b 30 g)
  by_cases h1 : (u4 line).tail = []
  · have : tokS l line g b = (30, (g, b)) := by unfold tokS; rw [if_pos h1]
    rw [this, decide_eq_true h1, p6t]
    by_cases h : ((l.length : Nat) : Int) < 2
    · rw [decide_eq_true h]; rfl
    · rw [decide_eq_false h]; rfl
  · have hlen := h2 h1
    rw [iteB_neg (decide_eq_false (by omega)), decide_eq_false h1]
    have e1 : ref10_Read.p6 fuel K b L (i : Int) l 0 (u4 line).tail false m2 g = ref10_Read.t6 (ref10_Read.p8 fuel K) b L (i : Int) l 0 (u4 line).tail false m2 g := rfl
    rw [e1]
    unfold ref10_Read.t6 tokS
    have hm : l.getD 1 [] ∈ l := by rw [getD_at _ (by omega)]; exact List.getElem_mem _
    rw [iteB_false, withinR_pos (by omega) (by omega), nat1, rname_eq _ (hl _ hm), bindR_val, if_neg h1]
    cases h3 : nameB (l.getD 1 []) with
    | false => rw [notB_eq, Bool.not_false, iteB_true, if_pos rfl, f8_eq]
    | true =>
      rw [notB_eq, Bool.not_true, iteB_false, if_neg (by simp)]
      by_cases h4 : g.1.length = 32
      · rw [iteB_pos (decide_eq_true (by omega)), if_pos h4, f8_eq]
      · rw [iteB_neg (decide_eq_false (by omega)), if_neg h4, withinR_pos (by omega) (by omega), withinR_zero hl0, nat1, mustR_pos (room_ok (by have := hg.t; simp; omega)), f8_eq]
        rfl
theorem rclass_up (b : Bool) (l : D4) (h1 : 1 < l.length) (g : Gm) (hg : g.1.length ≤ 32) : ∀ (d n j : Nat) (e : Int), j + d = g.1.length → d < n → e = (if (lastI g.1 (l.getD 1 []) j).isSome then 0 else 31) →
    ref10_Read.p12 fuel K n b L (i : Int) l e (j : Int) m2 g = ref10_Read.p14 fuel K b L (i : Int) l (if (lastI g.1 (l.getD 1 []) g.1.length).isSome then 0 else 31) m2 g
  | 0, n + 1, j, e, hj, _, he => by
    have hj : j = g.1.length := by omega
    subst hj
    have e1 : ref10_Read.p12 fuel K (n + 1) b L (i : Int) l e (g.1.length : Int) m2 g = ref10_Read.t12 (ref10_Read.p13 fuel K (ref10_Read.p12 fuel K n)) (ref10_Read.p14 fuel K) b L (i : Int) l e (g.1.length : Int) m2 g := rfl
    rw [e1]
    unfold ref10_Read.t12
    rw [iteB_neg lt_no, he]
  | d + 1, n + 1, j, e, hj, hn, he => by
    have e1 : ref10_Read.p12 fuel K (n + 1) b L (i : Int) l e (j : Int) m2 g = ref10_Read.t12 (ref10_Read.p13 fuel K (ref10_Read.p12 fuel K n)) (ref10_Read.p14 fuel K) b L (i : Int) l e (j : Int) m2 g := rfl
    rw [e1]
    unfold ref10_Read.t12
    rw [iteB_pos (lt_dec (by omega)), withinR_nat (by omega), withinR_pos (by omega) (by omega), nat1]
    have e2 : ∀ e, ref10_Read.p13 fuel K (ref10_Read.p12 fuel K n) b L (i : Int) l e (j : Int) m2 g = ref10_Read.p12 fuel K n b L (i : Int) l e (w64 ((j : Int) + 1)) m2 g := fun e => rfl
    rw [e2, e2, w64_succ (by omega)]
    by_cases h : (g.1.getD j zT).1 = l.getD 1 []
    · have hd : decide ((List.getD g.1 j (([] : List UInt8), (([] : List UInt8), (false, (0 : Int))))).1 = List.getD l 1 []) = true := decide_eq_true h
      rw [hd, iteB_true]
      exact rclass_up b l h1 g hg d n (j + 1) 0 (by omega) (by omega) (by rw [lastI_pos h]; rfl)
    · have hd : decide ((List.getD g.1 j (([] : List UInt8), (([] : List UInt8), (false, (0 : Int))))).1 = List.getD l 1 []) = false := decide_eq_false h
      rw [hd, iteB_false]
      exact rclass_up b l h1 g hg d n (j + 1) e (by omega) (by omega) (by rw [he, lastI_neg h])
  | _, 0, _, _, _, hn, _ => by omega
theorem rclass_down (b : Bool) (l : D4) (x : UInt8) (h1 : 2 < l.length) (h2 : l.getD 2 [] = [x]) (hx : 49 ≤ x.toNat ∧ x.toNat ≤ 57) (g : Gm) (hg : g.1.length ≤ 32) : ∀ (j n : Nat), j < n → j ≤ g.1.length →
    ref10_Read.p15 fuel K n b L (i : Int) l 0 ((j : Int) - 1) m2 g = outR K L i m2 (match lastI g.1 (l.getD 1 []) j with | none => (0, (g, b)) | some i => (0, ((setC g.1 i ((x.toNat : Int) - 48), g.2), b)))
  | 0, n + 1, _, _ => by
    have e1 : ref10_Read.p15 fuel K (n + 1) b L (i : Int) l 0 (((0 : Nat) : Int) - 1) m2 g = iteB (decide ((0 : Int) ≤ (((0 : Nat) : Int) - 1))) (ref10_Read.p16 fuel K (ref10_Read.p15 fuel K n) b L (i : Int) l 0 (((0 : Nat) : Int) - 1) (decide ((0 : Int) = 0)) m2 g) (ref10_Read.p8 fuel K b L (i : Int) 0 m2 g) := rfl
    rw [e1, iteB_neg (decide_eq_false (by omega)), f8_eq]
    rfl
  | j + 1, n + 1, hn, hj => by
    have e0 : (((j + 1 : Nat) : Int) - 1) = (j : Int) := by omega
    rw [e0]
    have e1 : ref10_Read.p15 fuel K (n + 1) b L (i : Int) l 0 (j : Int) m2 g = iteB (decide ((0 : Int) ≤ (j : Int))) (ref10_Read.t17 (ref10_Read.p2 fuel K) (ref10_Read.p15 fuel K n) b L (i : Int) l 0 (j : Int) m2 g) (ref10_Read.p8 fuel K b L (i : Int) 0 m2 g) := rfl
    rw [e1, iteB_pos (decide_eq_true (by omega))]
    unfold ref10_Read.t17
    rw [withinR_nat (by omega), withinR_pos (by omega) (by omega), nat1]
    by_cases h : (g.1.getD j zT).1 = l.getD 1 []
    · have hL : lastI g.1 (l.getD 1 []) (j + 1) = some j := by unfold lastI; rw [if_pos h]
      have hd : decide ((List.getD g.1 j (([] : List UInt8), (([] : List UInt8), (false, (0 : Int))))).1 = List.getD l 1 []) = true := decide_eq_true h
      have hv : byteAt (List.getD l ((2 : Int)).toNat []) ((0 : Int)).toNat = (x.toNat : Int) := by
        rw [nat2, h2]; rfl
      have hw : w64 (w64 (byteAt (List.getD l ((2 : Int)).toNat []) ((0 : Int)).toNat) - 48) = (x.toNat : Int) - 48 := by
        rw [hv, w64_id (n := (x.toNat : Int)) (by omega) (by omega), w64_id (by omega) (by omega)]
      rw [hd, iteB_true, withinR_pos (by omega) (by omega), withinR_pos (by omega) (by rw [nat2, h2]; simp), withinR_nat (by omega), hL, hw]
      rfl
    · have hL : lastI g.1 (l.getD 1 []) (j + 1) = lastI g.1 (l.getD 1 []) j := by conv => lhs; unfold lastI; rw [if_neg h]
      have hd : decide ((List.getD g.1 j (([] : List UInt8), (([] : List UInt8), (false, (0 : Int))))).1 = List.getD l 1 []) = false := decide_eq_false h
      rw [hd, iteB_false, hL, w64_id (by omega) (by omega)]
      exact rclass_down b l x h1 h2 hx g hg j n (by omega) (by omega)
theorem rclass_eq (b : Bool) (l : D4) (g : Gm) (hg : Sm g) :
    iteB (!decide (((l.length : Nat) : Int) = 3)) (ref10_Read.p7 fuel K b L (i : Int) l true m2 g) (withinR (2 : Int) l.length fun q10 => iteB (!decide (((List.length (List.getD l q10 []) : Nat) : Int) = 1)) (ref10_Read.p7 fuel K b L (i : Int) l true m2 g) (withinR (2 : Int) l.length fun q11 => withinR (0 : Int) (List.length (List.getD l q11 [])) fun q12 => iteB (decide (byteAt (List.getD l q11 []) q12 < 49)) (ref10_Read.p7 fuel K b L (i : Int) l true m2 g) (withinR (2 : Int) l.length fun q13 => withinR (0 : Int) (List.length (List.getD l q13 [])) fun q14 => ref10_Read.p7 fuel K b L (i : Int) l (decide ((57 : Int) < byteAt (List.getD l q13 []) q14)) m2 g)))
    = outR K L i m2 (clsS l g b) := by
  have bad : clsBad l → ref10_Read.p7 fuel K b L (i : Int) l true m2 g = outR K L i m2 (clsS l g b) := fun h => by
    unfold clsS; rw [if_pos h]; rfl
  by_cases h1 : l.length = 3
  · rw [iteB_neg (by rw [decide_eq_true (by omega)]; rfl), withinR_pos (by omega) (by omega), nat2]
    by_cases h2 : (l.getD 2 []).length = 1
    · obtain ⟨x, hx⟩ : ∃ x, l.getD 2 [] = [x] := by
        match hl : l.getD 2 [], h2 with
        | [x], _ => exact ⟨x, rfl⟩
      have hb : byteAt (l.getD 2 []) 0 = (x.toNat : Int) := by rw [hx]; rfl
      rw [iteB_neg (by rw [decide_eq_true (by omega)]; rfl), withinR_pos (by omega) (by omega), nat2, withinR_zero (by omega), hb]
      by_cases h3 : x.toNat < 49
      · rw [iteB_pos (decide_eq_true (by omega)), bad (.inr (.inr (.inl (by rw [hb]; omega))))]
      · rw [iteB_neg (decide_eq_false (by omega)), withinR_pos (by omega) (by omega), nat2, withinR_zero (by omega), hb]
        by_cases h5 : 57 < x.toNat
        · rw [decide_eq_true (by omega), bad (.inr (.inr (.inr (by rw [hb]; omega))))]
        · rw [decide_eq_false (by omega)]
          have hnb : ¬ clsBad l := by
            unfold clsBad
            rw [hb]
            omega
          have e1 : ref10_Read.p7 fuel K b L (i : Int) l false m2 g = ref10_Read.p12 fuel K fuel b L (i : Int) l 31 ((0 : Nat) : Int) m2 g := rfl
          rw [e1, rclass_up K L i m2 b l (by omega) g hg.t g.1.length fuel 0 31 (by omega) (by have := hg.t; have := fuel_gt g.1.length (by omega); omega) rfl]
          have e2 : ∀ e, ref10_Read.p14 fuel K b L (i : Int) l e m2 g = ref10_Read.p15 fuel K fuel b L (i : Int) l e (w64 (((g.1.length : Nat) : Int) - 1)) m2 g := fun e => rfl
          rw [e2, w64_id (by have := hg.t; omega) (by have := hg.t; omega)]
          unfold clsS
          rw [if_neg hnb, hb]
          cases hL : lastI g.1 (l.getD 1 []) g.1.length with
          | some k =>
            have := rclass_down K L i m2 b l x (by omega) hx (by omega) g hg.t g.1.length fuel (by have := hg.t; have := fuel_gt g.1.length (by omega); omega) (Nat.le_refl _)
            rw [hL] at this
            exact this
          | none =>
            obtain ⟨z, hz⟩ := fuel10
            have e3 : ∀ m (x12 : Int), ref10_Read.p15 fuel K (m + 1) b L (i : Int) l 31 x12 m2 g = iteB (decide ((0 : Int) ≤ x12)) (ref10_Read.p8 fuel K b L (i : Int) 31 m2 g) (ref10_Read.p8 fuel K b L (i : Int) 31 m2 g) := fun m x12 => rfl
            have e4 : ref10_Read.p15 fuel K fuel b L (i : Int) l 31 (((g.1.length : Nat) : Int) - 1) m2 g = ref10_Read.p8 fuel K b L (i : Int) 31 m2 g := by
              have : ∀ f, f = z + 10 → ref10_Read.p15 fuel K f b L (i : Int) l 31 (((g.1.length : Nat) : Int) - 1) m2 g = ref10_Read.p8 fuel K b L (i : Int) 31 m2 g := fun f hf => by
                rw [hf, e3]
                cases decide ((0 : Int) ≤ ((g.1.length : Nat) : Int) - 1) <;> rfl
              exact this fuel hz
            exact e4.trans (f8_eq K L i m2 b 31 g)
    · rw [iteB_pos (by rw [decide_eq_false (by omega)]; rfl), bad (.inr (.inl h2))]
  · rw [iteB_pos (by rw [decide_eq_false (by omega)]; rfl), bad (.inl h1)]
theorem rstart_eq (b : Bool) (l : D4) (g : Gm) (hl : ∀ p ∈ l, p.length < 100000) :
    iteB (!decide (((l.length : Nat) : Int) = 2)) (ref10_Read.p8 fuel K b L (i : Int) 30 m2 g) (withinR (1 : Int) l.length fun q15 => bindR (s_ref10_Name (List.getD l q15 [], ())) fun r16 => iteB (notB r16.1) (ref10_Read.p8 fuel K b L (i : Int) 31 m2 g) (iteB b (ref10_Read.p8 fuel K b L (i : Int) 32 m2 g) (withinR (1 : Int) l.length fun q17 => ref10_Read.p8 fuel K true L (i : Int) 0 m2 (g.1, (List.getD l q17 [], g.2.2)))))
    = outR K L i m2 (staS l g b) := by
  unfold staS
  by_cases h1 : l.length = 2
  · have hm : l.getD 1 [] ∈ l := by rw [getD_at _ (by omega)]; exact List.getElem_mem _
    rw [iteB_neg (by rw [decide_eq_true (by omega)]; rfl), if_neg (by simpa using h1), withinR_pos (by omega) (by omega), nat1, rname_eq _ (hl _ hm), bindR_val]
    cases h2 : nameB (l.getD 1 []) with
    | false => rw [notB_eq, Bool.not_false, iteB_true, if_pos rfl, f8_eq]
    | true =>
      rw [notB_eq, Bool.not_true, iteB_false, if_neg (by simp)]
      cases b with
      | true => rw [iteB_true, if_pos rfl, f8_eq]
      | false =>
        rw [iteB_false, if_neg (by simp), withinR_pos (by omega) (by omega), nat1, f8_eq]
  · rw [iteB_pos (by rw [decide_eq_false (by omega)]; rfl), if_pos h1, f8_eq]
theorem rrule_eq (b : Bool) (l : D4) (g : Gm) (hg : Sm g) (hll : l.length < 100000) (hl : ∀ p ∈ l, p.length < 100000) :
    iteB (decide (((l.length : Nat) : Int) < 3)) (ref10_Read.p9 fuel K b L (i : Int) l 0 true m2 g) (withinR (2 : Int) l.length fun q18 => ref10_Read.p9 fuel K b L (i : Int) l 0 (!(decide (List.getD l q18 [] = [58]))) m2 g) = outR K L i m2 (rulS l g b) := by
  have p9t : ref10_Read.p9 fuel K b L (i : Int) l 0 true m2 g = outR K L i m2 (30, (g, b)) := f8_eq K L i m2 b 30 g
  unfold rulS
  by_cases h1 : l.length < 3
  · rw [iteB_pos (decide_eq_true (by omega)), p9t, if_pos (.inl h1)]
  rw [iteB_neg (decide_eq_false (by omega)), withinR_pos (by omega) (by omega), nat2]
  by_cases h2 : l.getD 2 [] = [58]
  · rw [decide_eq_true h2, if_neg (show ¬ (l.length < 3 ∨ l.getD 2 [] ≠ [58]) from fun q => q.elim h1 fun q => q h2)]
    have p9f : ref10_Read.p9 fuel K b L (i : Int) l 0 (!true) m2 g = ref10_Read.t9 (ref10_Read.p8 fuel K) (ref10_Read.p18 fuel K) b L (i : Int) l 0 false m2 g := rfl
    have hd3 : List.drop ((3 : Int)).toNat (List.take l.length l) = l.drop 3 := by rw [nat3, List.take_length]
    have hm : l.getD 1 [] ∈ l := by rw [getD_at _ (by omega)]; exact List.getElem_mem _
    rw [p9f]
    unfold ref10_Read.t9
    rw [iteB_false, withinR_pos (by omega) (by omega), nat1, rname_eq _ (hl _ hm), bindR_val]
    have p18t : ref10_Read.p18 fuel K b L (i : Int) l 0 true m2 g = outR K L i m2 (31, (g, b)) := f8_eq K L i m2 b 31 g
    cases h3 : nameB (l.getD 1 []) with
    | false => rw [notB_eq, Bool.not_false, iteB_true, p18t, if_pos (.inl rfl)]
    | true =>
      rw [notB_eq, Bool.not_true, iteB_false, mustR_dec (by omega), mustR_dec (by omega), hd3, rnames_eq _ (by rw [List.length_drop]; omega) (fun p hp => hl p (List.mem_of_mem_drop hp)), bindR_val]
      cases h4 : (l.drop 3).all nameB with
      | false => rw [notB_eq, Bool.not_false, p18t, if_pos (.inr rfl)]
      | true =>
        rw [notB_eq, Bool.not_true, if_neg (by simp)]
        have p18f : ref10_Read.p18 fuel K b L (i : Int) l 0 false m2 g = iteB (decide ((11 : Int) < ((l.length : Nat) : Int))) (ref10_Read.p19 fuel K b L (i : Int) l 0 true m2 g) (ref10_Read.p19 fuel K b L (i : Int) l 0 (decide (((g.2.2.1.length : Nat) : Int) = 64)) m2 g) := rfl
        have p19t : ref10_Read.p19 fuel K b L (i : Int) l 0 true m2 g = outR K L i m2 (21, (g, b)) := f8_eq K L i m2 b 21 g
        rw [p18f]
        by_cases h5 : 11 < l.length
        · rw [iteB_pos (decide_eq_true (by omega)), p19t, if_pos (.inl h5)]
        · rw [iteB_neg (decide_eq_false (by omega))]
          by_cases h6 : g.2.2.1.length = 64
          · rw [decide_eq_true (by omega), p19t, if_pos (.inr h6)]
          · have p19f : ref10_Read.p19 fuel K b L (i : Int) l 0 false m2 g = ref10_Read.t19 (ref10_Read.p8 fuel K) b L (i : Int) l 0 false m2 g := rfl
            rw [decide_eq_false (by omega), p19f, if_neg (by omega)]
            unfold ref10_Read.t19
            rw [iteB_false, withinR_pos (by omega) (by omega), nat1, mustR_dec (by omega), mustR_dec (by omega), hd3, mustR_pos (room_ok (by have := hg.p; simp; omega)), f8_eq]
  · rw [decide_eq_false h2, if_pos (.inr h2)]
    exact p9t
theorem rarity_eq (k : Int) (hk : 1 ≤ k ∧ k ≤ 3) (n : Nat) : ∃ lo hi : Int, s_ref10_Arity (k, ()) = some ((lo, hi), ()) ∧ arS k n = !(decide ((n : Int) < lo) || decide (hi < (n : Int))) := by
  have : k = 1 ∨ k = 2 ∨ k = 3 := by omega
  rcases this with rfl | rfl | rfl
  · refine ⟨2, 3, rfl, ?_⟩
    unfold arS
    by_cases h1 : (n : Int) < 2
    · rw [decide_eq_true h1, decide_eq_false (by omega)]; rfl
    · by_cases h2 : (3 : Int) < n
      · rw [decide_eq_true h2, decide_eq_false (by omega)]; simp
      · rw [decide_eq_false h1, decide_eq_false h2, decide_eq_true (by omega)]; rfl
  · refine ⟨4, 4, rfl, ?_⟩
    unfold arS
    by_cases h1 : (n : Int) < 4
    · rw [decide_eq_true h1, decide_eq_false (by omega)]; rfl
    · by_cases h2 : (4 : Int) < n
      · rw [decide_eq_true h2, decide_eq_false (by omega)]; simp
      · rw [decide_eq_false h1, decide_eq_false h2, decide_eq_true (by omega)]; rfl
  · refine ⟨2, 2, rfl, ?_⟩
    unfold arS
    by_cases h1 : (n : Int) < 2
    · rw [decide_eq_true h1, decide_eq_false (by omega)]; rfl
    · by_cases h2 : (2 : Int) < n
      · rw [decide_eq_true h2, decide_eq_false (by omega)]; simp
      · rw [decide_eq_false h1, decide_eq_false h2, decide_eq_true (by omega)]; rfl
theorem rnote_eq (b : Bool) (w : List UInt8) (l : D4) (g : Gm) (hg : Sm g) (hk : w = wLst ∨ w = wDel ∨ w = wHol) (hll : (w :: l).length < 100000) (hl : ∀ p ∈ w :: l, p.length < 100000) :
    ref10_Read.p10 fuel K b L (i : Int) (w :: l) 0 true m2 g = outR K L i m2 (notS (kindOf w) (w :: l) g b) := by
  have hlen : (w :: l).length = l.length + 1 := rfl
  have e1 : ref10_Read.p10 fuel K b L (i : Int) (w :: l) 0 true m2 g = ref10_Read.p21 fuel K b L (i : Int) (w :: l) 0 (kindOf w) m2 g := by
    have a1 : ref10_Read.p10 fuel K b L (i : Int) (w :: l) 0 true m2 g = withinR (0 : Int) (w :: l).length fun q34 => iteB (decide (List.getD (w :: l) q34 [] = wDel)) (ref10_Read.p20 fuel K b L (i : Int) (w :: l) 0 2 m2 g) (ref10_Read.p20 fuel K b L (i : Int) (w :: l) 0 1 m2 g) := rfl
    have a2 : ∀ x, ref10_Read.p20 fuel K b L (i : Int) (w :: l) 0 x m2 g = withinR (0 : Int) (w :: l).length fun q35 => iteB (decide (List.getD (w :: l) q35 [] = wHol)) (ref10_Read.p21 fuel K b L (i : Int) (w :: l) 0 3 m2 g) (ref10_Read.p21 fuel K b L (i : Int) (w :: l) 0 x m2 g) := fun x => rfl
    rw [a1, withinR_zero (by omega), a2, a2, withinR_zero (by omega), withinR_zero (by omega), getD0]
    rcases hk with rfl | rfl | rfl <;> rfl
  have hk3 : 1 ≤ kindOf w ∧ kindOf w ≤ 3 := by
    unfold kindOf
    split
    · omega
    · split <;> omega
  rw [e1]
  generalize kindOf w = k at hk3
  obtain ⟨lo, hi, h1, h2⟩ := rarity_eq k hk3 ((w :: l).length - 1)
  have e2 : ref10_Read.p21 fuel K b L (i : Int) (w :: l) 0 k m2 g = ref10_Read.t21 (ref10_Read.p22 fuel K) b L (i : Int) (w :: l) 0 k m2 g := rfl
  have hw1 : w64 ((((w :: l).length : Nat) : Int) - 1) = (((w :: l).length - 1 : Nat) : Int) := by rw [w64_id (by omega) (by omega)]; omega
  rw [e2]
  unfold ref10_Read.t21 notS
  rw [h1, bindR_val, hw1]
  have p22t : ref10_Read.p22 fuel K b L (i : Int) (w :: l) 0 k true m2 g = outR K L i m2 (30, (g, b)) := f8_eq K L i m2 b 30 g
  have hiff : iteB (decide ((((w :: l).length - 1 : Nat) : Int) < lo)) (ref10_Read.p22 fuel K b L (i : Int) (w :: l) 0 k true m2 g) (ref10_Read.p22 fuel K b L (i : Int) (w :: l) 0 k (decide (hi < (((w :: l).length - 1 : Nat) : Int))) m2 g) = ref10_Read.p22 fuel K b L (i : Int) (w :: l) 0 k (!arS k ((w :: l).length - 1)) m2 g := by
    rw [h2, Bool.not_not]
    cases decide ((((w :: l).length - 1 : Nat) : Int) < lo) <;> rfl
  refine hiff.trans ?_
  cases h3 : arS k ((w :: l).length - 1) with
  | false => rw [Bool.not_false, p22t, if_pos rfl]
  | true =>
    rw [Bool.not_true, if_neg (by simp)]
    have e3 : ref10_Read.p22 fuel K b L (i : Int) (w :: l) 0 k false m2 g = ref10_Read.t22 (ref10_Read.p8 fuel K) b L (i : Int) (w :: l) 0 k false m2 g := rfl
    have hd1 : List.drop ((1 : Int)).toNat (List.take (w :: l).length (w :: l)) = (w :: l).drop 1 := by rw [nat1, List.take_length]
    rw [e3]
    unfold ref10_Read.t22
    rw [iteB_false, mustR_dec (by omega), mustR_dec (by omega), hd1, rnames_eq _ (by rw [List.length_drop]; omega) (fun p hp => hl p (List.mem_of_mem_drop hp)), bindR_val]
    cases h4 : ((w :: l).drop 1).all nameB with
    | false => rw [notB_eq, Bool.not_false, iteB_true, if_pos rfl, f8_eq]
    | true =>
      rw [notB_eq, Bool.not_true, iteB_false, if_neg (by simp)]
      by_cases h5 : g.2.2.2.length = 16
      · rw [iteB_pos (decide_eq_true (by omega)), if_pos h5, f8_eq]
      · rw [iteB_neg (decide_eq_false (by omega)), if_neg h5, mustR_dec (by omega), mustR_dec (by omega), mustR_pos (room_ok (by have := hg.n; simp; omega)), f8_eq]
theorem rline_eq (n : Nat) (b : Bool) (g : Gm) (hg : Sm g) (hi : i < L.length) (line : List UInt8) (hL : L[i] = line) (hs : line.length < 50000) :
    ref10_Read.p1 fuel (n + 1) b L (i : Int) m2 g = outR (ref10_Read.p1 fuel n) L i m2 (stepL line g b) := by
  have e1 : ref10_Read.p1 fuel (n + 1) b L (i : Int) m2 g = ref10_Read.t1 (ref10_Read.p2 fuel (ref10_Read.p1 fuel n)) (ref10_Read.p3 fuel (ref10_Read.p1 fuel n)) (ref10_Read.p4 fuel) b L (i : Int) m2 g := rfl
  rw [e1]
  unfold ref10_Read.t1
  rw [iteB_pos (lt_dec hi), withinR_nat hi, getD_at _ hi, hL, rwords_eq line (by omega), bindR_val]
  have skip : ref10_Read.p2 fuel (ref10_Read.p1 fuel n) b L (i : Int) m2 g = outR (ref10_Read.p1 fuel n) L i m2 (0, (g, b)) := rfl
  rw [skip]
  unfold stepL
  have hwl := Wd_len line
  have hwm := fun p (hp : p ∈ Wd line) => (Wd_mem hp).2
  have hwn := fun p (hp : p ∈ Wd line) => (Wd_mem hp).1
  have htok := tok_facts line
  dsimp only
  cases hw : Wd line with
  | nil => rfl
  | cons w l =>
    rw [hw] at hwl hwm hwn htok
    have hlen : (w :: l).length = l.length + 1 := rfl
    rw [iteB_neg (decide_eq_false (by omega)), withinR_zero (by omega), getD0]
    have hw0 : w ≠ [] := hwn w (by simp)
    have hwp : 0 < w.length := List.length_pos_iff.2 hw0
    have hb0 : byteAt w 0 = ((w.getD 0 0).toNat : Int) := rfl
    rw [withinR_zero hwp, hb0]
    by_cases h0 : w.getD 0 0 = 35
    · rw [h0, iteB_pos (by rfl)]; simp only [if_pos h0]
    · rw [iteB_neg (decide_eq_false fun e => h0 (ext8 (by have : (((w.getD 0 0).toNat : Nat) : Int) = ((35 : UInt8).toNat : Int) := e; omega)))]
      simp only [if_neg h0]
      have hl : ∀ p ∈ w :: l, p.length < 100000 := fun p hp => by have := hwm p hp; omega
      have hcond : (u4 line).tail ≠ [] → 2 ≤ (w :: l).length := fun h => by
        obtain ⟨w', l', e⟩ := htok h
        rw [e]; simp
      have e3 : ref10_Read.p3 fuel (ref10_Read.p1 fuel n) b L (i : Int) (w :: l) m2 g = withinR (0 : Int) (w :: l).length fun q7 => iteB (decide (List.getD (w :: l) q7 [] = wTok)) (ref10_Read.p5 fuel (ref10_Read.p1 fuel n) b L (i : Int) (w :: l) 0 (List.getD (w :: l) q7 []) (decide (List.getD (w :: l) q7 [] = wTok)) m2 g) (ref10_Read.p5 fuel (ref10_Read.p1 fuel n) b L (i : Int) (w :: l) 0 (List.getD (w :: l) q7 []) (decide (List.getD (w :: l) q7 [] = wSkip)) m2 g) := rfl
      rw [e3, withinR_zero (by omega), getD0]
      have tokp : ref10_Read.p5 fuel (ref10_Read.p1 fuel n) b L (i : Int) (w :: l) 0 w true m2 g = outR (ref10_Read.p1 fuel n) L i m2 (tokS (w :: l) line g b) := by
        have e4 : ref10_Read.p5 fuel (ref10_Read.p1 fuel n) b L (i : Int) (w :: l) 0 w true m2 g = withinR (i : Int) L.length fun q8 => bindR (s_ref10_behind (List.getD L q8 [], ())) fun r9 => iteB (decide ((((w :: l).length : Nat) : Int) < 2)) (ref10_Read.p6 fuel (ref10_Read.p1 fuel n) b L (i : Int) (w :: l) 0 r9.1 true m2 g) (ref10_Read.p6 fuel (ref10_Read.p1 fuel n) b L (i : Int) (w :: l) 0 r9.1 (decide (r9.1 = [])) m2 g) := rfl
        rw [e4, withinR_nat hi, getD_at _ hi, hL, behind_eq line (by omega), bindR_val]
        exact rtoken_eq _ L i m2 line (w :: l) b g hg (by omega) (by omega) hl hcond
      unfold wordS
      by_cases h1 : w = wTok
      · rw [iteB_pos (decide_eq_true h1), decide_eq_true h1, tokp, if_pos (.inl h1)]
      rw [iteB_neg (decide_eq_false h1)]
      by_cases h2 : w = wSkip
      · rw [decide_eq_true h2, tokp, if_pos (.inr h2)]
      rw [decide_eq_false h2, if_neg (by simp [h1, h2])]
      have e5 : ref10_Read.p5 fuel (ref10_Read.p1 fuel n) b L (i : Int) (w :: l) 0 w false m2 g = iteB (decide (w = wCls)) (iteB (!decide ((((w :: l).length : Nat) : Int) = 3)) (ref10_Read.p7 fuel (ref10_Read.p1 fuel n) b L (i : Int) (w :: l) true m2 g) (withinR (2 : Int) (w :: l).length fun q10 => iteB (!decide (((List.length (List.getD (w :: l) q10 []) : Nat) : Int) = 1)) (ref10_Read.p7 fuel (ref10_Read.p1 fuel n) b L (i : Int) (w :: l) true m2 g) (withinR (2 : Int) (w :: l).length fun q11 => withinR (0 : Int) (List.length (List.getD (w :: l) q11 [])) fun q12 => iteB (decide (byteAt (List.getD (w :: l) q11 []) q12 < 49)) (ref10_Read.p7 fuel (ref10_Read.p1 fuel n) b L (i : Int) (w :: l) true m2 g) (withinR (2 : Int) (w :: l).length fun q13 => withinR (0 : Int) (List.length (List.getD (w :: l) q13 [])) fun q14 => ref10_Read.p7 fuel (ref10_Read.p1 fuel n) b L (i : Int) (w :: l) (decide ((57 : Int) < byteAt (List.getD (w :: l) q13 []) q14)) m2 g))))
        (iteB (decide (w = wSta)) (iteB (!decide ((((w :: l).length : Nat) : Int) = 2)) (ref10_Read.p8 fuel (ref10_Read.p1 fuel n) b L (i : Int) 30 m2 g) (withinR (1 : Int) (w :: l).length fun q15 => bindR (s_ref10_Name (List.getD (w :: l) q15 [], ())) fun r16 => iteB (notB r16.1) (ref10_Read.p8 fuel (ref10_Read.p1 fuel n) b L (i : Int) 31 m2 g) (iteB b (ref10_Read.p8 fuel (ref10_Read.p1 fuel n) b L (i : Int) 32 m2 g) (withinR (1 : Int) (w :: l).length fun q17 => ref10_Read.p8 fuel (ref10_Read.p1 fuel n) true L (i : Int) 0 m2 (g.1, (List.getD (w :: l) q17 [], g.2.2))))))
        (iteB (decide (w = wRul)) (iteB (decide ((((w :: l).length : Nat) : Int) < 3)) (ref10_Read.p9 fuel (ref10_Read.p1 fuel n) b L (i : Int) (w :: l) 0 true m2 g) (withinR (2 : Int) (w :: l).length fun q18 => ref10_Read.p9 fuel (ref10_Read.p1 fuel n) b L (i : Int) (w :: l) 0 (!(decide (List.getD (w :: l) q18 [] = [58]))) m2 g))
        (iteB (decide (w = wLst)) (ref10_Read.p10 fuel (ref10_Read.p1 fuel n) b L (i : Int) (w :: l) 0 (decide (w = wLst)) m2 g) (iteB (decide (w = wDel)) (ref10_Read.p10 fuel (ref10_Read.p1 fuel n) b L (i : Int) (w :: l) 0 (decide (w = wDel)) m2 g) (ref10_Read.p10 fuel (ref10_Read.p1 fuel n) b L (i : Int) (w :: l) 0 (decide (w = wHol)) m2 g))))) := rfl
      rw [e5]
      by_cases h3 : w = wCls
      · rw [iteB_pos (decide_eq_true h3), if_pos h3]
        exact rclass_eq _ L i m2 b (w :: l) g hg
      rw [iteB_neg (decide_eq_false h3), if_neg h3]
      by_cases h4 : w = wSta
      · rw [iteB_pos (decide_eq_true h4), if_pos h4]
        exact rstart_eq _ L i m2 b (w :: l) g hl
      rw [iteB_neg (decide_eq_false h4), if_neg h4]
      by_cases h5 : w = wRul
      · rw [iteB_pos (decide_eq_true h5), if_pos h5]
        exact rrule_eq _ L i m2 b (w :: l) g hg (by omega) hl
      rw [iteB_neg (decide_eq_false h5), if_neg h5]
      by_cases h6 : w = wLst ∨ w = wDel ∨ w = wHol
      · rw [if_pos h6]
        have nt := rnote_eq (ref10_Read.p1 fuel n) L i m2 b w l g hg h6 (by omega) hl
        by_cases q1 : w = wLst
        · rw [iteB_pos (decide_eq_true q1), decide_eq_true q1]; exact nt
        · rw [iteB_neg (decide_eq_false q1)]
          by_cases q2 : w = wDel
          · rw [iteB_pos (decide_eq_true q2), decide_eq_true q2]; exact nt
          · rw [iteB_neg (decide_eq_false q2)]
            have q3 : w = wHol := (h6.resolve_left q1).resolve_left q2
            rw [decide_eq_true q3]; exact nt
      · rw [if_neg h6]
        have q1 : w ≠ wLst := fun e => h6 (.inl e)
        have q2 : w ≠ wDel := fun e => h6 (.inr (.inl e))
        have q3 : w ≠ wHol := fun e => h6 (.inr (.inr e))
        rw [iteB_neg (decide_eq_false q1), iteB_neg (decide_eq_false q2), decide_eq_false q3]
        exact f8_eq (ref10_Read.p1 fuel n) L i m2 b 30 g
end
end Go.Proofs.YtogipciicekmoaaDoor.Vm.Gr
namespace Go.Proofs.YtogipciicekmoaaDoor.Vm.Gr
open Go Go.Proofs.YtogipciicekmoaaDoor.Vm
set_option linter.unusedVariables false
set_option maxRecDepth 100000
def Wh (s : List UInt8) : Bool := wh (s.length + 1) s
theorem wh_any : ∀ (k n : Nat) (s : List UInt8), s.length ≤ k → s.length < n → wh n s = Wh s := by
  intro k
  induction k with
  | zero =>
    intro n s hk hn
    cases s with
    | nil => cases n with
      | zero => omega
      | succ n => rfl
    | cons x s => simp at hk
  | succ k ih =>
    intro n s hk hn
    cases s with
    | nil => cases n with
      | zero => omega
      | succ n => rfl
    | cons x s =>
      cases n with
      | zero => omega
      | succ n =>
        have hd := dec_len (x :: s)
        simp only [List.length_cons] at hk hn
        show (if (dec (x :: s)).2 = 0 then false else wh n ((x :: s).drop (dec (x :: s)).2.toNat)) = (if (dec (x :: s)).2 = 0 then false else wh (x :: s).length ((x :: s).drop (dec (x :: s)).2.toNat))
        rcases hd with h | ⟨j, h, h1, h2⟩
        · rw [if_pos h, if_pos h]
        · rw [if_neg (by omega), if_neg (by omega), h, Int.toNat_natCast]
          have hl : ((x :: s).drop j).length ≤ s.length := by rw [List.length_drop]; simp only [List.length_cons]; omega
          rw [ih n _ (by omega) (by omega), ih (x :: s).length _ (by omega) (by simp only [List.length_cons]; omega)]
theorem Wh_step {s : List UInt8} (h : s ≠ []) : Wh s = if (dec s).2 = 0 then false else Wh (s.drop (dec s).2.toNat) := by
  cases s with
  | nil => exact absurd rfl h
  | cons x s =>
    show (if (dec (x :: s)).2 = 0 then false else wh (x :: s).length ((x :: s).drop (dec (x :: s)).2.toNat)) = _
    rcases dec_len (x :: s) with h | ⟨j, h, h1, h2⟩
    · rw [if_pos h, if_pos h]
    · have e0 : ¬ (dec (x :: s)).2 = 0 := by omega
      have hj : (dec (x :: s)).2.toNat = j := by rw [h]; rfl
      rw [if_neg e0, if_neg e0, hj]
      exact wh_any _ _ _ (Nat.le_refl _) (by rw [List.length_drop]; simp only [List.length_cons]; omega)
theorem enc_tail (m : Nat) (hm : m < 1114112) (i : Nat) (c : UInt8) (hi : 1 ≤ i) (h : (enc m)[i]? = some c) : 128 ≤ c.toNat := by
  have key : ∀ k : Nat, k < 64 → 128 ≤ (UInt8.ofNat (128 + k)).toNat := fun k hk => by rw [toNat_ofNat _ (by omega)]; omega
  unfold enc at h
  split at h
  · match i, hi, h with
    | 0, hi, _ => omega
    | i + 1, _, h => simp at h
  · split at h
    · match i, hi, h with
      | 0, hi, _ => omega
      | 1, _, h => simp only [List.getElem?_cons_succ, List.getElem?_cons_zero, Option.some.injEq] at h; rw [← h]; exact key _ (by omega)
      | i + 2, _, h => simp at h
    · split at h
      · match i, hi, h with
        | 0, hi, _ => omega
        | 1, _, h => simp only [List.getElem?_cons_succ, List.getElem?_cons_zero, Option.some.injEq] at h; rw [← h]; exact key _ (by omega)
        | 2, _, h => simp only [List.getElem?_cons_succ, List.getElem?_cons_zero, Option.some.injEq] at h; rw [← h]; exact key _ (by omega)
        | i + 3, _, h => simp at h
      · match i, hi, h with
        | 0, hi, _ => omega
        | 1, _, h => simp only [List.getElem?_cons_succ, List.getElem?_cons_zero, Option.some.injEq] at h; rw [← h]; exact key _ (by omega)
        | 2, _, h => simp only [List.getElem?_cons_succ, List.getElem?_cons_zero, Option.some.injEq] at h; rw [← h]; exact key _ (by omega)
        | 3, _, h => simp only [List.getElem?_cons_succ, List.getElem?_cons_zero, Option.some.injEq] at h; rw [← h]; exact key _ (by omega)
        | i + 4, _, h => simp at h
theorem Wh_ascii (c : UInt8) (hc : c.toNat < 128) (b : List UInt8) : Wh (c :: b) = Wh b := by
  have hd : dec (c :: b) = ((c.toNat : Int), 1) := by
    show (if c.toNat < 128 then _ else _) = _
    rw [if_pos hc]
  rw [Wh_step (by simp), hd, if_neg (show ¬ ((1 : Int) = 0) by decide)]
  rfl
theorem Wh_app (c : UInt8) (hc : c.toNat < 128) (b : List UInt8) : ∀ (k : Nat) (a : List UInt8), a.length ≤ k → Wh (a ++ c :: b) = (Wh a && Wh b) := by
  intro k
  induction k with
  | zero =>
    intro a ha
    have : a = [] := List.eq_nil_of_length_eq_zero (by omega)
    subst this
    rw [List.nil_append, Wh_ascii c hc b]
    rfl
  | succ k ih =>
    intro a ha
    cases a with
    | nil => rw [List.nil_append, Wh_ascii c hc b]; rfl
    | cons x a =>
      rw [Wh_step (s := x :: a ++ c :: b) (by simp), Wh_step (s := x :: a) (by simp)]
      rcases dec_spec (x :: a) with h | ⟨m, r, h, hs, hm1, hm2⟩
      · have h2 : dec (x :: a ++ c :: b) = no := by
          rcases dec_spec (x :: a ++ c :: b) with h2 | ⟨m, r, h2, hs, hm1, hm2⟩
          · exact h2
          · exfalso
            by_cases hl : (enc m).length ≤ (x :: a).length
            · have ht : (x :: a).take (enc m).length = enc m := by
                have e1 := congrArg (List.take (enc m).length) hs
                rw [List.take_append_of_le_length hl, List.take_left'] at e1
                · exact e1
                · rfl
              have e2 : x :: a = enc m ++ (x :: a).drop (enc m).length := by rw [← List.take_append_drop (enc m).length (x :: a), ht]; simp
              have := dec_enc m hm1 hm2 ((x :: a).drop (enc m).length)
              rw [← e2, h] at this
              have := congrArg Prod.fst this
              have e3 : (-1 : Int) = (m : Int) := this
              omega
            · have e1 := congrArg (fun l => l[(x :: a).length]?) hs
              have e1 : (x :: a ++ c :: b)[(x :: a).length]? = (enc m ++ r)[(x :: a).length]? := e1
              rw [List.getElem?_append_right (Nat.le_refl _), List.getElem?_append_left (by omega), Nat.sub_self] at e1
              have := enc_tail m hm1 (x :: a).length c (by simp only [List.length_cons]; omega) e1.symm
              omega
        rw [h, h2]
        rfl
      · have e1 : x :: a ++ c :: b = enc m ++ (r ++ c :: b) := by rw [hs, List.append_assoc]
        have h2 : dec (x :: a ++ c :: b) = ((m : Int), ((enc m).length : Int)) := by rw [e1]; exact dec_enc m hm1 hm2 _
        have hl := enc_len m
        rw [h, h2, if_neg (by omega), if_neg (by omega), Int.toNat_natCast, e1, hs, List.drop_left' rfl, List.drop_left' rfl]
        refine ih r ?_
        have := congrArg List.length hs
        rw [List.length_append] at this
        omega
theorem Wh_cut (c : UInt8) (hc : c.toNat < 128) : ∀ (s p : List UInt8), Wh s = true → p ∈ cutL c s → Wh p = true := by
  intro s
  have go : ∀ (k : Nat) (s : List UInt8), s.length ≤ k → ∀ p, Wh s = true → p ∈ cutL c s → Wh p = true := by
    intro k
    induction k with
    | zero =>
      intro s hk p hs hp
      have : s = [] := List.eq_nil_of_length_eq_zero (by omega)
      subst this
      simp [cutL] at hp
      subst hp
      exact hs
    | succ k ih =>
      intro s hk p hs hp
      by_cases h : c ∈ s
      · obtain ⟨a, b, ha, hb⟩ : ∃ a b, c ∉ a ∧ s = a ++ c :: b := by
          rcases findB_spec c s 0 with ⟨h1, _⟩ | ⟨j, h1, h2, _⟩
          · exact absurd h h1
          · have hl : j < s.length := (List.getElem?_eq_some_iff.1 h2).1
            have he : s[j] = c := (List.getElem?_eq_some_iff.1 h2).2
            exact ⟨s.take j, s.drop (j + 1), h1, by rw [← he, ← List.drop_eq_getElem_cons hl, List.take_append_drop]⟩
        subst hb
        rw [cutL_app c a b ha] at hp
        rw [Wh_app c hc b a.length a (Nat.le_refl _), Bool.and_eq_true] at hs
        rcases List.mem_cons.1 hp with e | e
        · subst e; exact hs.1
        · exact ih b (by simp only [List.length_append, List.length_cons] at hk; omega) p hs.2 e
      · rw [cutL_none c s h] at hp
        simp at hp
        subst hp
        exact hs
  exact fun p hs hp => go s.length s (Nat.le_refl _) p hs hp
theorem cutL_no (c : UInt8) : ∀ (s p : List UInt8), p ∈ cutL c s → c ∉ p
  | [], p, h => by simp [cutL] at h; subst h; simp
  | x :: s, p, h => by
    unfold cutL at h
    by_cases hx : x = c
    · rw [if_pos hx] at h
      rcases List.mem_cons.1 h with e | e
      · subst e; simp
      · exact cutL_no c s p e
    · rw [if_neg hx] at h
      split at h
      · cases h
      · rename_i q ps e
        have ih := cutL_no c s
        rw [e] at ih
        rcases List.mem_cons.1 h with e2 | e2
        · subst e2
          have := ih q (by simp)
          simp only [List.mem_cons, not_or]
          exact ⟨fun e => hx e.symm, this⟩
        · exact ih p (by simp [e2])
def runL : List (List UInt8) → Gm → Bool → Rs
  | [], g, b => (0, (g, b))
  | line :: ls, g, b => if (stepL line g b).1 = 0 then runL ls (stepL line g b).2.1 (stepL line g b).2.2 else stepL line g b
def readS (s : List UInt8) : Gm × Int :=
  if 4000 < s.length then (zG, 4) else if Wh s = false then (zG, 2) else if (runL (cutL 10 s) zG false).1 = 0 then ((runL (cutL 10 s) zG false).2.1, 0) else (zG, (runL (cutL 10 s) zG false).1)
theorem sm_step {line : List UInt8} {g : Gm} {b : Bool} (hg : Sm g) : Sm (stepL line g b).2.1 := by
  obtain ⟨h1, h2, h3⟩ := hg
  unfold stepL
  split
  · exact ⟨h1, h2, h3⟩
  · split
    · exact ⟨h1, h2, h3⟩
    · unfold wordS
      split
      · unfold tokS
        split
        · exact ⟨h1, h2, h3⟩
        · split
          · exact ⟨h1, h2, h3⟩
          · split
            · exact ⟨h1, h2, h3⟩
            · exact ⟨by simp only [List.length_append, List.length_cons, List.length_nil]; omega, h2, h3⟩
      · split
        · unfold clsS
          split
          · exact ⟨h1, h2, h3⟩
          · split
            · exact ⟨h1, h2, h3⟩
            · exact ⟨by simp only [setC, List.length_set]; exact h1, h2, h3⟩
        · split
          · unfold staS
            split
            · exact ⟨h1, h2, h3⟩
            · split
              · exact ⟨h1, h2, h3⟩
              · split
                · exact ⟨h1, h2, h3⟩
                · exact ⟨h1, h2, h3⟩
          · split
            · unfold rulS
              split
              · exact ⟨h1, h2, h3⟩
              · split
                · exact ⟨h1, h2, h3⟩
                · split
                  · exact ⟨h1, h2, h3⟩
                  · exact ⟨h1, by simp only [List.length_append, List.length_cons, List.length_nil]; omega, h3⟩
            · split
              · unfold notS
                split
                · exact ⟨h1, h2, h3⟩
                · split
                  · exact ⟨h1, h2, h3⟩
                  · split
                    · exact ⟨h1, h2, h3⟩
                    · exact ⟨h1, h2, by simp only [List.length_append, List.length_cons, List.length_nil]; omega⟩
              · exact ⟨h1, h2, h3⟩
def outRd (r : Rs) : Option D30 := if r.1 = 0 then some ((r.2.1, 0), ()) else some ((zG, r.1), ())
theorem read_loop (L : D4) (hL : L.length < 100000) (hl : ∀ p ∈ L, p.length < 50000) (m2 : Gm) : ∀ (d n i : Nat) (g : Gm) (b : Bool), i + d = L.length → d < n → Sm g → gram_Read.p1 fuel n L ((L.length : Nat) : Int) (i : Int) m2 (g, b) = outRd (runL (L.drop i) g b)
  | 0, n + 1, i, g, b, hi, _, hg => by
    have : i = L.length := by omega
    subst this
    have e1 : gram_Read.p1 fuel (n + 1) L ((L.length : Nat) : Int) (L.length : Int) m2 (g, b) = gram_Read.t1 (gram_Read.p1 fuel n) (gram_Read.p2 fuel) L ((L.length : Nat) : Int) (L.length : Int) m2 (g, b) := rfl
    rw [e1]
    unfold gram_Read.t1
    rw [iteB_neg lt_no, List.drop_length]
    rfl
  | d + 1, n + 1, i, g, b, hi, hn, hg => by
    have hlt : i < L.length := by omega
    have e1 : gram_Read.p1 fuel (n + 1) L ((L.length : Nat) : Int) (i : Int) m2 (g, b) = gram_Read.t1 (gram_Read.p1 fuel n) (gram_Read.p2 fuel) L ((L.length : Nat) : Int) (i : Int) m2 (g, b) := rfl
    rw [e1]
    unfold gram_Read.t1
    have hb := hl _ (List.getElem_mem hlt)
    rw [iteB_pos (lt_dec hlt), withinR_nat hlt, getD_at _ hlt, line_eq _ (by omega) g b hg, List.drop_eq_getElem_cons hlt]
    unfold outG runL
    rw [bindR_val]
    have hsm := sm_step (line := L[i]) (b := b) hg
    generalize stepL L[i] g b = r at hsm
    obtain ⟨e, g', b'⟩ := r
    dsimp only at hsm ⊢
    by_cases h : e = 0
    · rw [decide_eq_true h, if_pos h]
      show gram_Read.p1 fuel n L ((L.length : Nat) : Int) (w64 ((i : Int) + 1)) m2 (g', b') = _
      rw [w64_succ (by omega)]
      exact read_loop L hL hl m2 d n (i + 1) g' b' (by omega) (by omega) hsm
    · rw [decide_eq_false h, if_neg h]
      unfold outRd
      rw [if_neg h]
      rfl
  | _, 0, _, _, _, _, hn, _ => by omega
theorem rread_loop (L : D4) (hL : L.length < 100000) (hl : ∀ p ∈ L, p.length < 50000) (m2 : Gm) : ∀ (d n i : Nat) (g : Gm) (b : Bool), i + d = L.length → d < n → Sm g → ref10_Read.p1 fuel n b L (i : Int) m2 g = outRd (runL (L.drop i) g b)
  | 0, n + 1, i, g, b, hi, _, hg => by
    have : i = L.length := by omega
    subst this
    have e1 : ref10_Read.p1 fuel (n + 1) b L (L.length : Int) m2 g = ref10_Read.t1 (ref10_Read.p2 fuel (ref10_Read.p1 fuel n)) (ref10_Read.p3 fuel (ref10_Read.p1 fuel n)) (ref10_Read.p4 fuel) b L (L.length : Int) m2 g := rfl
    rw [e1]
    unfold ref10_Read.t1
    rw [iteB_neg lt_no, List.drop_length]
    rfl
  | d + 1, n + 1, i, g, b, hi, hn, hg => by
    have hlt : i < L.length := by omega
    have hb := hl _ (List.getElem_mem hlt)
    rw [rline_eq L i m2 n b g hg hlt _ rfl hb, List.drop_eq_getElem_cons hlt]
    unfold runL
    have hsm := sm_step (line := L[i]) (b := b) hg
    generalize stepL L[i] g b = r at hsm
    obtain ⟨e, g', b'⟩ := r
    dsimp only at hsm ⊢
    unfold outR
    dsimp only
    by_cases h : e = 0
    · rw [if_pos h, if_pos h, w64_succ (by omega)]
      exact rread_loop L hL hl m2 d n (i + 1) g' b' (by omega) (by omega) hsm
    · rw [if_neg h, if_neg h]
      unfold outRd
      rw [if_neg h]
      rfl
  | _, 0, _, _, _, _, hn, _ => by omega
theorem sm_zero : Sm zG := ⟨by decide, by decide, by decide⟩
theorem read_eq (s : List UInt8) (hs : s.length < 100000000) : s_gram_Read (s, ()) = some (readS s, ()) := by
  have e : s_gram_Read (s, ()) = iteB (decide ((4000 : Int) < ((s.length : Nat) : Int))) (some ((zG, 4), ())) (bindR (s_runes_Whole (s, ())) fun r1 => iteB (notB r1.1) (some ((zG, 2), ())) (bindR (s_strings_Split (s, ([10], ()))) fun r2 => gram_Read.p1 fuel fuel r2.1 ((r2.1.length : Nat) : Int) ((0 : Nat) : Int) zG (zG, false))) := rfl
  rw [e]
  unfold readS
  by_cases h : 4000 < s.length
  · rw [iteB_pos (decide_eq_true (by omega)), if_pos h]
  · rw [iteB_neg (decide_eq_false (by omega)), if_neg h, whole_eq s (by omega), bindR_val, wh_any s.length fuel s (Nat.le_refl _) (by have := fuel_gt s.length (by omega); omega)]
    cases hw : Wh s with
    | false => rfl
    | true =>
      rw [notB_eq, Bool.not_true, iteB_false, if_neg (by simp), split_eq 10 s (by omega), bindR_val]
      dsimp only
      have hsm := cutL_small 10 s
      rw [read_loop (cutL 10 s) (by omega) (fun p hp => by have := cutL_mem 10 s p hp; omega) zG (cutL 10 s).length fuel 0 zG false (by omega) (by have := fuel_gt (cutL 10 s).length (by omega); omega) sm_zero, List.drop_zero]
      unfold outRd
      split <;> rfl
theorem rread_eq (s : List UInt8) (hs : s.length < 100000000) : s_ref10_Read (s, ()) = some (readS s, ()) := by
  have e : s_ref10_Read (s, ()) = iteB (decide ((4000 : Int) < ((s.length : Nat) : Int))) (some ((zG, 4), ())) (bindR (s_ref01_Whole (s, ())) fun r1 => iteB (notB r1.1) (some ((zG, 2), ())) (bindR (s_ref10_cut (s, (((10 : UInt8).toNat : Int), ()))) fun r2 => ref10_Read.p1 fuel fuel false r2.1 ((0 : Nat) : Int) zG zG)) := rfl
  rw [e]
  unfold readS
  by_cases h : 4000 < s.length
  · rw [iteB_pos (decide_eq_true (by omega)), if_pos h]
  · rw [iteB_neg (decide_eq_false (by omega)), if_neg h, rwhole_eq s (by omega), bindR_val, wh_any s.length fuel s (Nat.le_refl _) (by have := fuel_gt s.length (by omega); omega)]
    cases hw : Wh s with
    | false => rfl
    | true =>
      rw [notB_eq, Bool.not_true, iteB_false, if_neg (by simp), rcut_eq 10 s (by omega), bindR_val]
      dsimp only
      have hsm := cutL_small 10 s
      rw [rread_loop (cutL 10 s) (by omega) (fun p hp => by have := cutL_mem 10 s p hp; omega) zG (cutL 10 s).length fuel 0 zG false (by omega) (by have := fuel_gt (cutL 10 s).length (by omega); omega) sm_zero, List.drop_zero]
      unfold outRd
      split <;> rfl
end Go.Proofs.YtogipciicekmoaaDoor.Vm.Gr
namespace Go.Proofs.YtogipciicekmoaaDoor.Vm.Gr
open Go Go.Proofs.YtogipciicekmoaaDoor.Vm
set_option linter.unusedVariables false
set_option maxRecDepth 100000
theorem alive_eq : s_law10_alive () = some (true, ()) := by kernel_rfl
structure Ok0 (g : Gm) (b : Bool) : Prop where
  toks : ∀ t ∈ g.1, nameB t.1 = true ∧ t.2.1 ≠ [] ∧ 10 ∉ t.2.1 ∧ Wh t.2.1 = true ∧ t.2.1.length < 100000 ∧ 0 ≤ t.2.2.2 ∧ t.2.2.2 ≤ 9
  prods : ∀ p ∈ g.2.2.1, nameB p.1 = true ∧ p.2.length ≤ 8 ∧ p.2.all nameB = true
  notes : ∀ n ∈ g.2.2.2, arS n.1 n.2.length = true ∧ n.2.all nameB = true
  start : g.2.1 = [] ∨ nameB g.2.1 = true
  began : b = true ↔ g.2.1 ≠ []
structure Ok (g : Gm) (b : Bool) : Prop extends Ok0 g b where
  sm : Sm g
theorem ok_zero : Ok zG false where
  sm := sm_zero
  toks := fun t (h : t ∈ ([] : D3)) => by simp at h
  prods := fun t (h : t ∈ ([] : D6)) => by simp at h
  notes := fun t (h : t ∈ ([] : D8)) => by simp at h
  start := .inl rfl
  began := ⟨fun h => (Bool.noConfusion h), fun h => absurd rfl h⟩
theorem lastI_lt {T : D3} {nm : List UInt8} : ∀ {j i : Nat}, lastI T nm j = some i → i < j
  | 0, i, h => by cases h
  | j + 1, i, h => by
    unfold lastI at h
    split at h
    · cases h; omega
    · have := lastI_lt h; omega
theorem set_mem {α : Type} {l : List α} {i : Nat} {a x : α} (h : x ∈ l.set i a) : x = a ∨ x ∈ l := by
  rcases List.mem_or_eq_of_mem_set h with h | h
  · exact .inr h
  · exact .inl h
theorem nameB_ne {s : List UInt8} (h : nameB s = true) : s ≠ [] := by
  intro e
  subst e
  cases h
theorem u4_split (line : List UInt8) (h : (u4 line).tail ≠ []) : ∃ a, line = a ++ 32 :: (u4 line).tail := by
  obtain ⟨a, ha⟩ : ∃ a, line = a ++ u4 line := suf_trans (nxt_suf line) (nxt_suf _)
  have : ∃ t, u4 line = 32 :: t := by
    unfold u4 nxt
    rcases word_split (trimB 32 (u2 line)) with ⟨_, _, k3⟩ | ⟨_, b, _, _, _, k4⟩
    · exfalso
      apply h
      unfold u4 nxt
      rw [k3]; rfl
    · exact ⟨b, k4⟩
  obtain ⟨t, ht⟩ := this
  refine ⟨a, ?_⟩
  rw [ht] at ha ⊢
  exact ha
section
variable {line : List UInt8} {g : Gm} {b : Bool} {l : D4}
theorem ok_tok (hg : Ok0 g b) (hn : 10 ∉ line) (hw : Wh line = true) (hs : line.length < 50000) (h0 : (tokS l line g b).1 = 0) : Ok0 (tokS l line g b).2.1 (tokS l line g b).2.2 := by
  unfold tokS at h0 ⊢
  by_cases k1 : (u4 line).tail = []
  · rw [if_pos k1] at h0; cases h0
  rw [if_neg k1] at h0 ⊢
  by_cases k2 : nameB (l.getD 1 []) = false
  · rw [if_pos k2] at h0; cases h0
  rw [if_neg k2] at h0 ⊢
  by_cases k3 : g.1.length = 32
  · rw [if_pos k3] at h0; cases h0
  rw [if_neg k3]
  obtain ⟨a, ha⟩ := u4_split line k1
  refine ⟨fun t ht => ?_, hg.prods, hg.notes, hg.start, hg.began⟩
  rcases List.mem_append.1 ht with ht | ht
  · exact hg.toks t ht
  · simp only [List.mem_singleton] at ht
    subst ht
    have hwa : Wh (a ++ 32 :: (u4 line).tail) = true := by rw [← ha]; exact hw
    rw [Wh_app 32 (by decide) _ a.length a (Nat.le_refl _), Bool.and_eq_true] at hwa
    have hlen := congrArg List.length ha
    simp only [List.length_append, List.length_cons] at hlen
    have hlt : (u4 line).tail.length < 100000 := by omega
    refine ⟨by simpa using k2, k1, fun hm => hn ?_, hwa.2, hlt, (Int.le_refl 0 : (0 : Int) ≤ 0), (by decide : (0 : Int) ≤ 9)⟩
    rw [ha]; simp [hm]
theorem ok_cls (hg : Ok0 g b) (h0 : (clsS l g b).1 = 0) : Ok0 (clsS l g b).2.1 (clsS l g b).2.2 := by
  unfold clsS at h0 ⊢
  by_cases k1 : clsBad l
  · rw [if_pos k1] at h0; cases h0
  rw [if_neg k1] at h0 ⊢
  cases hi : lastI g.1 (l.getD 1 []) g.1.length with
  | none => rw [hi] at h0; cases h0
  | some i =>
    have hlt := lastI_lt hi
    have hm : g.1.getD i zT ∈ g.1 := by rw [getD_at _ hlt]; exact List.getElem_mem _
    refine ⟨fun t ht => ?_, hg.prods, hg.notes, hg.start, hg.began⟩
    rcases set_mem ht with e | ht
    · subst e
      have ho := hg.toks _ hm
      have hbd : 49 ≤ byteAt (l.getD 2 []) 0 ∧ byteAt (l.getD 2 []) 0 ≤ 57 := by unfold clsBad at k1; omega
      exact ⟨ho.1, ho.2.1, ho.2.2.1, ho.2.2.2.1, ho.2.2.2.2.1, by dsimp only; omega, by dsimp only; omega⟩
    · exact hg.toks t ht
theorem ok_sta (hg : Ok0 g b) (h0 : (staS l g b).1 = 0) : Ok0 (staS l g b).2.1 (staS l g b).2.2 := by
  unfold staS at h0 ⊢
  by_cases k1 : l.length ≠ 2
  · rw [if_pos k1] at h0; cases h0
  rw [if_neg k1] at h0 ⊢
  by_cases k2 : nameB (l.getD 1 []) = false
  · rw [if_pos k2] at h0; cases h0
  rw [if_neg k2] at h0 ⊢
  by_cases k3 : b = true
  · rw [if_pos k3] at h0; cases h0
  rw [if_neg k3]
  have hnm : nameB (l.getD 1 []) = true := by simpa using k2
  exact ⟨hg.toks, hg.prods, hg.notes, .inr hnm, ⟨fun _ => nameB_ne hnm, fun _ => rfl⟩⟩
theorem ok_rul (hg : Ok0 g b) (h0 : (rulS l g b).1 = 0) : Ok0 (rulS l g b).2.1 (rulS l g b).2.2 := by
  unfold rulS at h0 ⊢
  by_cases k1 : l.length < 3 ∨ l.getD 2 [] ≠ [58]
  · rw [if_pos k1] at h0; cases h0
  rw [if_neg k1] at h0 ⊢
  by_cases k2 : nameB (l.getD 1 []) = false ∨ (l.drop 3).all nameB = false
  · rw [if_pos k2] at h0; cases h0
  rw [if_neg k2] at h0 ⊢
  by_cases k3 : 11 < l.length ∨ g.2.2.1.length = 64
  · rw [if_pos k3] at h0; cases h0
  rw [if_neg k3]
  refine ⟨hg.toks, fun p hp => ?_, hg.notes, hg.start, hg.began⟩
  rcases List.mem_append.1 hp with hp | hp
  · exact hg.prods p hp
  · simp only [List.mem_singleton] at hp
    subst hp
    rw [not_or] at k2 k3
    have hd : (l.drop 3).length ≤ 8 := by rw [List.length_drop]; omega
    exact ⟨by simpa using k2.1, hd, by simpa using k2.2⟩
theorem ok_not (k : Int) (hg : Ok0 g b) (h0 : (notS k l g b).1 = 0) : Ok0 (notS k l g b).2.1 (notS k l g b).2.2 := by
  unfold notS at h0 ⊢
  by_cases k1 : arS k (l.length - 1) = false
  · rw [if_pos k1] at h0; cases h0
  rw [if_neg k1] at h0 ⊢
  by_cases k2 : (l.drop 1).all nameB = false
  · rw [if_pos k2] at h0; cases h0
  rw [if_neg k2] at h0 ⊢
  by_cases k3 : g.2.2.2.length = 16
  · rw [if_pos k3] at h0; cases h0
  rw [if_neg k3]
  refine ⟨hg.toks, hg.prods, fun n hp => ?_, hg.start, hg.began⟩
  rcases List.mem_append.1 hp with hp | hp
  · exact hg.notes n hp
  · simp only [List.mem_singleton] at hp
    subst hp
    have hd : arS k (l.drop 1).length = true := by rw [List.length_drop]; simpa using k1
    exact ⟨hd, by simpa using k2⟩
theorem ok_word (w : List UInt8) (hg : Ok0 g b) (hn : 10 ∉ line) (hw : Wh line = true) (hs : line.length < 50000) (h0 : (wordS w l line g b).1 = 0) : Ok0 (wordS w l line g b).2.1 (wordS w l line g b).2.2 := by
  unfold wordS at h0 ⊢
  by_cases q1 : w = wTok ∨ w = wSkip
  · rw [if_pos q1] at h0 ⊢; exact ok_tok hg hn hw hs h0
  rw [if_neg q1] at h0 ⊢
  by_cases q2 : w = wCls
  · rw [if_pos q2] at h0 ⊢; exact ok_cls hg h0
  rw [if_neg q2] at h0 ⊢
  by_cases q3 : w = wSta
  · rw [if_pos q3] at h0 ⊢; exact ok_sta hg h0
  rw [if_neg q3] at h0 ⊢
  by_cases q4 : w = wRul
  · rw [if_pos q4] at h0 ⊢; exact ok_rul hg h0
  rw [if_neg q4] at h0 ⊢
  by_cases q5 : w = wLst ∨ w = wDel ∨ w = wHol
  · rw [if_pos q5] at h0 ⊢; exact ok_not _ hg h0
  rw [if_neg q5] at h0
  cases h0
end
theorem stepL_nil {line : List UInt8} (h : Wd line = []) (g : Gm) (b : Bool) : stepL line g b = (0, (g, b)) := by unfold stepL; rw [h]
theorem stepL_hash {line w : List UInt8} {l : D4} (h : Wd line = w :: l) (h35 : w.getD 0 0 = 35) (g : Gm) (b : Bool) : stepL line g b = (0, (g, b)) := by unfold stepL; rw [h]; simp only [if_pos h35]
theorem stepL_word {line w : List UInt8} {l : D4} (h : Wd line = w :: l) (h35 : ¬ w.getD 0 0 = 35) (g : Gm) (b : Bool) : stepL line g b = wordS w (w :: l) line g b := by unfold stepL; rw [h]; simp only [if_neg h35]
theorem ok_step {line : List UInt8} {g : Gm} {b : Bool} (hg : Ok g b) (hn : 10 ∉ line) (hw : Wh line = true) (hs : line.length < 50000) (h0 : (stepL line g b).1 = 0) : Ok (stepL line g b).2.1 (stepL line g b).2.2 := by
  have hsm := sm_step (line := line) (b := b) hg.sm
  refine ⟨?_, hsm⟩
  cases e : Wd line with
  | nil => rw [stepL_nil e]; exact hg.toOk0
  | cons w l =>
    by_cases h35 : w.getD 0 0 = 35
    · rw [stepL_hash e h35]; exact hg.toOk0
    · rw [stepL_word e h35] at h0 ⊢
      exact ok_word w hg.toOk0 hn hw hs h0
theorem ok_run : ∀ (L : D4) (g : Gm) (b : Bool), Ok g b → (∀ p ∈ L, 10 ∉ p ∧ Wh p = true ∧ p.length < 50000) → (runL L g b).1 = 0 → Ok (runL L g b).2.1 (runL L g b).2.2
  | [], g, b, hg, _, _ => hg
  | line :: L, g, b, hg, hL, h0 => by
    unfold runL at h0 ⊢
    by_cases h : (stepL line g b).1 = 0
    · rw [if_pos h] at h0 ⊢
      have hl := hL line (by simp)
      exact ok_run L _ _ (ok_step hg hl.1 hl.2.1 hl.2.2 h) (fun p hp => hL p (by simp [hp])) h0
    · rw [if_neg h] at h0
      exact absurd h0 h
theorem lines_ok {s : List UInt8} (hs : s.length < 50000) (hw : Wh s = true) : ∀ p ∈ cutL 10 s, 10 ∉ p ∧ Wh p = true ∧ p.length < 50000 := fun p hp =>
  ⟨cutL_no 10 s p hp, Wh_cut 10 (by decide) s p hw hp, by have := cutL_mem 10 s p hp; omega⟩
end Go.Proofs.YtogipciicekmoaaDoor.Vm.Gr
namespace Go.Proofs.YtogipciicekmoaaDoor.Vm.Gr
open Go Go.Proofs.YtogipciicekmoaaDoor.Vm
set_option linter.unusedVariables false
set_option maxRecDepth 100000
end Go.Proofs.YtogipciicekmoaaDoor.Vm.Gr
namespace Go.Proofs.YtogipciicekmoaaDoor.Vm.Gr
open Go Go.Proofs.YtogipciicekmoaaDoor.Vm
set_option linter.unusedVariables false
set_option maxRecDepth 100000
structure Mono (H : Gm) (γ : Bool) (H' : Gm) (γ' : Bool) : Prop where
  t : H.1.length ≤ H'.1.length
  p : H.2.2.1.length ≤ H'.2.2.1.length
  n : H.2.2.2.length ≤ H'.2.2.2.length
  b : γ = true → γ' = true
theorem Mono.rfl {H : Gm} {γ : Bool} : Mono H γ H γ := ⟨Nat.le_refl _, Nat.le_refl _, Nat.le_refl _, id⟩
theorem Mono.trans {H H' H'' : Gm} {γ γ' γ'' : Bool} (h : Mono H γ H' γ') (h' : Mono H' γ' H'' γ'') : Mono H γ H'' γ'' :=
  ⟨Nat.le_trans h.t h'.t, Nat.le_trans h.p h'.p, Nat.le_trans h.n h'.n, fun e => h'.b (h.b e)⟩
def add (G H : Gm) : Gm := (G.1 ++ H.1, (G.2.1 ++ H.2.1, (G.2.2.1 ++ H.2.2.1, G.2.2.2 ++ H.2.2.2)))
def Sim (G : Gm) (β : Bool) (r : Rs) (H : Gm) (γ : Bool) : Prop :=
  (r = (0, (add G H, β || γ)) ∧ ¬ (β = true ∧ γ = true)) ∨ (r.1 ≠ 0 ∧ (β = true ∧ γ = true ∨ 32 < G.1.length + H.1.length ∨ 64 < G.2.2.1.length + H.2.2.1.length ∨ 16 < G.2.2.2.length + H.2.2.2.length))
theorem codes {line : List UInt8} {g : Gm} {b : Bool} : (stepL line g b).1 ≠ 2 ∧ (stepL line g b).1 ≠ 4 := by
  have key : ∀ (r : Rs), (r.1 = 0 ∨ r.1 = 21 ∨ r.1 = 30 ∨ r.1 = 31 ∨ r.1 = 32) → r.1 ≠ 2 ∧ r.1 ≠ 4 := fun r h => by omega
  refine key _ ?_
  cases e : Wd line with
  | nil => rw [stepL_nil e]; exact .inl rfl
  | cons w l =>
    by_cases h35 : w.getD 0 0 = 35
    · rw [stepL_hash e h35]; exact .inl rfl
    · rw [stepL_word e h35]
      unfold wordS
      split
      · unfold tokS
        split
        · exact .inr (.inr (.inl rfl))
        · split
          · exact .inr (.inr (.inr (.inl rfl)))
          · split
            · exact .inr (.inl rfl)
            · exact .inl rfl
      · split
        · unfold clsS
          split
          · exact .inr (.inr (.inl rfl))
          · split
            · exact .inr (.inr (.inr (.inl rfl)))
            · exact .inl rfl
        · split
          · unfold staS
            split
            · exact .inr (.inr (.inl rfl))
            · split
              · exact .inr (.inr (.inr (.inl rfl)))
              · split
                · exact .inr (.inr (.inr (.inr rfl)))
                · exact .inl rfl
          · split
            · unfold rulS
              split
              · exact .inr (.inr (.inl rfl))
              · split
                · exact .inr (.inr (.inr (.inl rfl)))
                · split
                  · exact .inr (.inl rfl)
                  · exact .inl rfl
            · split
              · unfold notS
                split
                · exact .inr (.inr (.inl rfl))
                · split
                  · exact .inr (.inr (.inr (.inl rfl)))
                  · split
                    · exact .inr (.inl rfl)
                    · exact .inl rfl
              · exact .inr (.inr (.inl rfl))
theorem run_codes : ∀ (L : D4) (g : Gm) (b : Bool), (runL L g b).1 ≠ 2 ∧ (runL L g b).1 ≠ 4
  | [], g, b => ⟨(by decide : (0 : Int) ≠ 2), (by decide : (0 : Int) ≠ 4)⟩
  | line :: L, g, b => by
    unfold runL
    by_cases h : (stepL line g b).1 = 0
    · rw [if_pos h]; exact run_codes L _ _
    · rw [if_neg h]; exact codes
theorem lastI_app (G H : D3) (nm : List UInt8) : ∀ (j i : Nat), j ≤ H.length → lastI H nm j = some i → lastI (G ++ H) nm (G.length + j) = some (G.length + i)
  | 0, i, _, h => by cases h
  | j + 1, i, hj, h => by
    have hg : (G ++ H).getD (G.length + j) zT = H.getD j zT := by
      rw [List.getD_eq_getElem?_getD, List.getElem?_append_right (by omega), List.getD_eq_getElem?_getD]
      congr 2
      omega
    by_cases e : (H.getD j zT).1 = nm
    · rw [lastI_pos e] at h
      cases h
      exact lastI_pos (j := G.length + j) (by rw [hg]; exact e)
    · rw [lastI_neg e] at h
      rw [← Nat.add_assoc, lastI_neg (by rw [hg]; exact e)]
      exact lastI_app G H nm j i (by omega) h
theorem setC_app (G H : D3) (i : Nat) (v : Int) : setC (G ++ H) (G.length + i) v = G ++ setC H i v := by
  unfold setC
  have hg : (G ++ H).getD (G.length + i) zT = H.getD i zT := by
    rw [List.getD_eq_getElem?_getD, List.getElem?_append_right (by omega), List.getD_eq_getElem?_getD]
    congr 2
    omega
  rw [hg, List.set_append_right _ _ (by omega), Nat.add_sub_cancel_left]
section
variable {G H : Gm} {β γ : Bool} {line : List UInt8} {l : D4}
theorem sim_tok (hb : ¬ (β = true ∧ γ = true)) (h0 : (tokS l line H γ).1 = 0) : Mono H γ (tokS l line H γ).2.1 (tokS l line H γ).2.2 ∧ Sim G β (tokS l line (add G H) (β || γ)) (tokS l line H γ).2.1 (tokS l line H γ).2.2 := by
  unfold tokS at h0 ⊢
  by_cases k1 : (u4 line).tail = []
  · rw [if_pos k1] at h0; cases h0
  simp only [if_neg k1] at h0 ⊢
  by_cases k2 : nameB (l.getD 1 []) = false
  · rw [if_pos k2] at h0; cases h0
  simp only [if_neg k2] at h0 ⊢
  by_cases k3 : H.1.length = 32
  · rw [if_pos k3] at h0; cases h0
  simp only [if_neg k3]
  refine ⟨⟨by simp, Nat.le_refl _, Nat.le_refl _, id⟩, ?_⟩
  by_cases k4 : (add G H).1.length = 32
  · rw [if_pos k4]
    have : G.1.length + H.1.length = 32 := by rw [← k4]; simp [add]
    exact .inr ⟨(by decide : (21 : Int) ≠ 0), .inr (.inl (by simp only [List.length_append, List.length_cons, List.length_nil]; omega))⟩
  · rw [if_neg k4]
    exact .inl ⟨by simp [add], hb⟩
theorem sim_cls (hb : ¬ (β = true ∧ γ = true)) (h0 : (clsS l H γ).1 = 0) : Mono H γ (clsS l H γ).2.1 (clsS l H γ).2.2 ∧ Sim G β (clsS l (add G H) (β || γ)) (clsS l H γ).2.1 (clsS l H γ).2.2 := by
  unfold clsS at h0 ⊢
  by_cases k1 : clsBad l
  · rw [if_pos k1] at h0; cases h0
  simp only [if_neg k1] at h0 ⊢
  cases hi : lastI H.1 (l.getD 1 []) H.1.length with
  | none => rw [hi] at h0; cases h0
  | some i =>
    have h2 : lastI (add G H).1 (l.getD 1 []) (add G H).1.length = some (G.1.length + i) := by
      have := lastI_app G.1 H.1 (l.getD 1 []) H.1.length i (Nat.le_refl _) hi
      unfold add
      rw [List.length_append]
      exact this
    rw [h2]
    refine ⟨⟨by simp [setC], Nat.le_refl _, Nat.le_refl _, id⟩, .inl ⟨?_, hb⟩⟩
    unfold add
    dsimp only
    rw [setC_app]
theorem sim_sta (hb : ¬ (β = true ∧ γ = true)) (hG : β = false → G.2.1 = []) (h0 : (staS l H γ).1 = 0) : Mono H γ (staS l H γ).2.1 (staS l H γ).2.2 ∧ Sim G β (staS l (add G H) (β || γ)) (staS l H γ).2.1 (staS l H γ).2.2 := by
  unfold staS at h0 ⊢
  by_cases k1 : l.length ≠ 2
  · rw [if_pos k1] at h0; cases h0
  simp only [if_neg k1] at h0 ⊢
  by_cases k2 : nameB (l.getD 1 []) = false
  · rw [if_pos k2] at h0; cases h0
  simp only [if_neg k2] at h0 ⊢
  by_cases k3 : γ = true
  · rw [if_pos k3] at h0; cases h0
  simp only [if_neg k3]
  refine ⟨⟨Nat.le_refl _, Nat.le_refl _, Nat.le_refl _, fun _ => by trivial⟩, ?_⟩
  have hγ : γ = false := by simpa using k3
  subst hγ
  cases β with
  | true => exact .inr ⟨(by decide : (32 : Int) ≠ 0), .inl ⟨by trivial, by trivial⟩⟩
  | false => exact .inl ⟨by simp [add, hG], by simp⟩
theorem sim_rul (hb : ¬ (β = true ∧ γ = true)) (h0 : (rulS l H γ).1 = 0) : Mono H γ (rulS l H γ).2.1 (rulS l H γ).2.2 ∧ Sim G β (rulS l (add G H) (β || γ)) (rulS l H γ).2.1 (rulS l H γ).2.2 := by
  unfold rulS at h0 ⊢
  by_cases k1 : l.length < 3 ∨ l.getD 2 [] ≠ [58]
  · rw [if_pos k1] at h0; cases h0
  simp only [if_neg k1] at h0 ⊢
  by_cases k2 : nameB (l.getD 1 []) = false ∨ (l.drop 3).all nameB = false
  · rw [if_pos k2] at h0; cases h0
  simp only [if_neg k2] at h0 ⊢
  by_cases k3 : 11 < l.length ∨ H.2.2.1.length = 64
  · rw [if_pos k3] at h0; cases h0
  simp only [if_neg k3]
  refine ⟨⟨Nat.le_refl _, by simp, Nat.le_refl _, id⟩, ?_⟩
  by_cases k4 : 11 < l.length ∨ (add G H).2.2.1.length = 64
  · rw [if_pos k4]
    rw [not_or] at k3
    have k5 : (add G H).2.2.1.length = 64 := k4.resolve_left k3.1
    have : G.2.2.1.length + H.2.2.1.length = 64 := by rw [← k5]; simp [add]
    exact .inr ⟨(by decide : (21 : Int) ≠ 0), .inr (.inr (.inl (by simp only [List.length_append, List.length_cons, List.length_nil]; omega)))⟩
  · rw [if_neg k4]
    exact .inl ⟨by simp [add], hb⟩
theorem sim_not (k : Int) (hb : ¬ (β = true ∧ γ = true)) (h0 : (notS k l H γ).1 = 0) : Mono H γ (notS k l H γ).2.1 (notS k l H γ).2.2 ∧ Sim G β (notS k l (add G H) (β || γ)) (notS k l H γ).2.1 (notS k l H γ).2.2 := by
  unfold notS at h0 ⊢
  by_cases k1 : arS k (l.length - 1) = false
  · rw [if_pos k1] at h0; cases h0
  simp only [if_neg k1] at h0 ⊢
  by_cases k2 : (l.drop 1).all nameB = false
  · rw [if_pos k2] at h0; cases h0
  simp only [if_neg k2] at h0 ⊢
  by_cases k3 : H.2.2.2.length = 16
  · rw [if_pos k3] at h0; cases h0
  simp only [if_neg k3]
  refine ⟨⟨Nat.le_refl _, Nat.le_refl _, by simp, id⟩, ?_⟩
  by_cases k4 : (add G H).2.2.2.length = 16
  · rw [if_pos k4]
    have : G.2.2.2.length + H.2.2.2.length = 16 := by rw [← k4]; simp [add]
    exact .inr ⟨(by decide : (21 : Int) ≠ 0), .inr (.inr (.inr (by simp only [List.length_append, List.length_cons, List.length_nil]; omega)))⟩
  · rw [if_neg k4]
    exact .inl ⟨by simp [add], hb⟩
theorem sim_step (hb : ¬ (β = true ∧ γ = true)) (hG : β = false → G.2.1 = []) (h0 : (stepL line H γ).1 = 0) : Mono H γ (stepL line H γ).2.1 (stepL line H γ).2.2 ∧ Sim G β (stepL line (add G H) (β || γ)) (stepL line H γ).2.1 (stepL line H γ).2.2 := by
  cases e : Wd line with
  | nil => rw [stepL_nil e, stepL_nil e]; exact ⟨.rfl, .inl ⟨rfl, hb⟩⟩
  | cons w l =>
    by_cases h35 : w.getD 0 0 = 35
    · rw [stepL_hash e h35, stepL_hash e h35]; exact ⟨.rfl, .inl ⟨rfl, hb⟩⟩
    · rw [stepL_word e h35] at h0
      rw [stepL_word e h35, stepL_word e h35]
      unfold wordS at h0 ⊢
      by_cases q1 : w = wTok ∨ w = wSkip
      · simp only [if_pos q1] at h0 ⊢; exact sim_tok hb h0
      simp only [if_neg q1] at h0 ⊢
      by_cases q2 : w = wCls
      · simp only [if_pos q2] at h0 ⊢; exact sim_cls hb h0
      simp only [if_neg q2] at h0 ⊢
      by_cases q3 : w = wSta
      · simp only [if_pos q3] at h0 ⊢; exact sim_sta hb hG h0
      simp only [if_neg q3] at h0 ⊢
      by_cases q4 : w = wRul
      · simp only [if_pos q4] at h0 ⊢; exact sim_rul hb h0
      simp only [if_neg q4] at h0 ⊢
      by_cases q5 : w = wLst ∨ w = wDel ∨ w = wHol
      · simp only [if_pos q5] at h0 ⊢; exact sim_not _ hb h0
      rw [if_neg q5] at h0
      cases h0
end
theorem mono_run (G : Gm) : ∀ (L : D4) (H : Gm) (γ : Bool), (runL L H γ).1 = 0 → Mono H γ (runL L H γ).2.1 (runL L H γ).2.2
  | [], H, γ, _ => .rfl
  | line :: L, H, γ, h0 => by
    unfold runL at h0 ⊢
    by_cases h : (stepL line H γ).1 = 0
    · rw [if_pos h] at h0 ⊢
      exact (sim_step (G := zG) (β := false) (by simp) (fun _ => rfl) h).1.trans (mono_run G L _ _ h0)
    · rw [if_neg h] at h0
      exact absurd h0 h
theorem sim_run (G : Gm) (β : Bool) (hG : β = false → G.2.1 = []) : ∀ (L : D4) (H : Gm) (γ : Bool), ¬ (β = true ∧ γ = true) → (runL L H γ).1 = 0 → Sim G β (runL L (add G H) (β || γ)) (runL L H γ).2.1 (runL L H γ).2.2
  | [], H, γ, hb, _ => .inl ⟨rfl, hb⟩
  | line :: L, H, γ, hb, h0 => by
    unfold runL at h0 ⊢
    by_cases h : (stepL line H γ).1 = 0
    · rw [if_pos h] at h0
      simp only [if_pos h]
      obtain ⟨hm, hs⟩ := sim_step (G := G) (β := β) hb hG h
      generalize stepL line H γ = r1 at h h0 hm hs ⊢
      generalize stepL line (add G H) (β || γ) = r2 at hs ⊢
      rcases hs with ⟨rfl, hb'⟩ | ⟨h1, h2⟩
      · rw [if_pos rfl]
        exact sim_run G β hG L r1.2.1 r1.2.2 hb' h0
      · rw [if_neg h1]
        have hm2 := mono_run G L _ _ h0
        have m1 := hm2.t
        have m2 := hm2.p
        have m3 := hm2.n
        refine .inr ⟨h1, ?_⟩
        rcases h2 with ⟨k1, k2⟩ | k | k | k
        · exact .inl ⟨k1, hm2.b k2⟩
        · exact .inr (.inl (by omega))
        · exact .inr (.inr (.inl (by omega)))
        · exact .inr (.inr (.inr (by omega)))
    · rw [if_neg h] at h0
      exact absurd h0 h
theorem add_zero (G : Gm) : add G zG = G := by simp [add, zG]
theorem cutL_cat (c : UInt8) (b : List UInt8) : ∀ (a : List UInt8), cutL c (a ++ c :: b) = cutL c a ++ cutL c b
  | [] => by simp [cutL]
  | x :: a => by
    rw [List.cons_append]
    have ih := cutL_cat c b a
    by_cases h : x = c
    · have e1 : ∀ l, cutL c (x :: l) = [] :: cutL c l := fun l => by conv => lhs; unfold cutL; rw [if_pos h]
      rw [e1, e1, ih, List.cons_append]
    · have e1 : ∀ l p ps, cutL c l = p :: ps → cutL c (x :: l) = (x :: p) :: ps := fun l p ps e => by conv => lhs; unfold cutL; rw [if_neg h, e]
      cases e : cutL c a with
      | nil => exact absurd e (cutL_ne c a)
      | cons p ps =>
        rw [e] at ih
        rw [e1 a p ps e, e1 _ p (ps ++ cutL c b) (by rw [ih]; rfl)]
        rfl
theorem runL_app : ∀ (L1 L2 : D4) (g : Gm) (b : Bool), runL (L1 ++ L2) g b = if (runL L1 g b).1 = 0 then runL L2 (runL L1 g b).2.1 (runL L1 g b).2.2 else runL L1 g b
  | [], L2, g, b => by
    rw [List.nil_append]
    have : (runL [] g b) = (0, (g, b)) := rfl
    rw [this, if_pos rfl]
  | line :: L1, L2, g, b => by
    rw [List.cons_append]
    have e1 : ∀ L, runL (line :: L) g b = if (stepL line g b).1 = 0 then runL L (stepL line g b).2.1 (stepL line g b).2.2 else stepL line g b := fun L => rfl
    rw [e1, e1]
    by_cases h : (stepL line g b).1 = 0
    · simp only [if_pos h]
      exact runL_app L1 L2 _ _
    · simp only [if_neg h]
end Go.Proofs.YtogipciicekmoaaDoor.Vm.Gr
namespace Go.Proofs.YtogipciicekmoaaDoor.Vm.Gr
open Go Go.Proofs.YtogipciicekmoaaDoor.Vm
set_option linter.unusedVariables false
set_option maxRecDepth 100000
def sepT : List UInt8 := [10, 32, 32, 10, 32, 35]
theorem text_is (a b r : List UInt8) : (((a ++ sepT) ++ r) ++ [10]) ++ b = a ++ 10 :: ([32, 32] ++ 10 :: ((32 :: 35 :: r) ++ 10 :: b)) := by simp [sepT]
theorem wh_text (a b r : List UInt8) : Wh ((((a ++ sepT) ++ r) ++ [10]) ++ b) = (Wh a && (Wh r && Wh b)) := by
  rw [text_is, Wh_app 10 (by decide) _ a.length a (Nat.le_refl _), Wh_app 10 (by decide) _ 2 [32, 32] (by decide), Wh_app 10 (by decide) _ _ (32 :: 35 :: r) (Nat.le_refl _), Wh_ascii 32 (by decide) (35 :: r), Wh_ascii 35 (by decide) r]
  have : Wh [32, 32] = true := by
    rw [Wh_ascii 32 (by decide), Wh_ascii 32 (by decide)]
    rfl
  rw [this, Bool.true_and]
theorem lines_text (a b r : List UInt8) (hr : 10 ∉ r) : cutL 10 ((((a ++ sepT) ++ r) ++ [10]) ++ b) = cutL 10 a ++ ([32, 32] :: (32 :: 35 :: r) :: cutL 10 b) := by
  have h : 10 ∉ (32 :: 35 :: r : List UInt8) := by simp [hr]
  rw [text_is, cutL_cat, cutL_app 10 [32, 32] _ (by decide), cutL_app 10 _ b h]
theorem skip_blank (g : Gm) (b : Bool) : stepL [32, 32] g b = (0, (g, b)) := stepL_nil (by decide) g b
theorem skip_hash (r : List UInt8) (g : Gm) (b : Bool) : stepL (32 :: 35 :: r) g b = (0, (g, b)) := by
  have e : Wd (32 :: 35 :: r) = wF (35 :: r) :: Wd (wR (35 :: r)) := by rw [Wd_blank, Wd_word 35 r (by decide)]
  refine stepL_hash e ?_ g b
  rw [wF_cons, if_neg (by decide)]
  rfl
theorem run_text (a b r : List UInt8) (hr : 10 ∉ r) (g : Gm) (β : Bool) : runL (cutL 10 ((((a ++ sepT) ++ r) ++ [10]) ++ b)) g β = if (runL (cutL 10 a) g β).1 = 0 then runL (cutL 10 b) (runL (cutL 10 a) g β).2.1 (runL (cutL 10 a) g β).2.2 else runL (cutL 10 a) g β := by
  rw [lines_text a b r hr, runL_app]
  have e : ∀ g β, runL ([32, 32] :: (32 :: 35 :: r) :: cutL 10 b) g β = runL (cutL 10 b) g β := fun g β => by
    have e1 : ∀ l L, runL (l :: L) g β = if (stepL l g β).1 = 0 then runL L (stepL l g β).2.1 (stepL l g β).2.2 else stepL l g β := fun l L => rfl
    rw [e1, skip_blank, if_pos rfl, e1, skip_hash, if_pos rfl]
  simp only [e]
theorem readS_short {s : List UInt8} (h : s.length ≤ 4000) : readS s = if Wh s = false then (zG, 2) else if (runL (cutL 10 s) zG false).1 = 0 then ((runL (cutL 10 s) zG false).2.1, 0) else (zG, (runL (cutL 10 s) zG false).1) := by
  unfold readS
  rw [if_neg (by omega)]
theorem start_len {g : Gm} {b : Bool} (h : Ok g b) : g.2.1.length ≤ 16 := by
  rcases h.start with e | e
  · rw [e]; decide
  · unfold nameB at e
    simp only [Bool.and_eq_true, decide_eq_true_eq] at e
    exact e.2
theorem lines_end (G H : Gm) (β γ : Bool) (C : Rs) (oA : Ok G β) (oB : Ok H γ) (hs : Sim G β C H γ) :
    iteB (!(decide (G.2.1 = []))) (law10_GramLines.p3 fuel (if C.1 = 0 then (C.2.1, (0 : Int)) else (zG, C.1)).2 (!(decide (H.2.1 = []))) G H (if C.1 = 0 then (C.2.1, (0 : Int)) else (zG, C.1)).1) (law10_GramLines.p3 fuel (if C.1 = 0 then (C.2.1, (0 : Int)) else (zG, C.1)).2 false G H (if C.1 = 0 then (C.2.1, (0 : Int)) else (zG, C.1)).1) = some (true, ()) := by
  have gt := oA.sm.t
  have gp := oA.sm.p
  have gn := oA.sm.n
  have ht := oB.sm.t
  have hp := oB.sm.p
  have hn := oB.sm.n
  have w1 : w64 (((G.1.length : Nat) : Int) + ((H.1.length : Nat) : Int)) = ((G.1.length + H.1.length : Nat) : Int) := by rw [w64_id (by omega) (by omega)]; omega
  have w2 : w64 (((G.2.2.1.length : Nat) : Int) + ((H.2.2.1.length : Nat) : Int)) = ((G.2.2.1.length + H.2.2.1.length : Nat) : Int) := by rw [w64_id (by omega) (by omega)]; omega
  have w3 : w64 (((G.2.2.2.length : Nat) : Int) + ((H.2.2.2.length : Nat) : Int)) = ((G.2.2.2.length + H.2.2.2.length : Nat) : Int) := by rw [w64_id (by omega) (by omega)]; omega
  have p3t : ∀ x c, law10_GramLines.p3 fuel x true G H c = some (!decide (x = 0), ()) := fun x c => rfl
  have p3f : ∀ x c, law10_GramLines.p3 fuel x false G H c = law10_GramLines.t4 x G H c := fun x c => rfl
  rcases hs with ⟨rfl, hb⟩ | ⟨h1, h2⟩
  · simp only [if_pos trivial]
    have fin : law10_GramLines.t4 0 G H (add G H) = some (true, ()) := by
      unfold law10_GramLines.t4
      have s1 := start_len oA
      have s2 := start_len oB
      rw [iteB_neg (by rfl), w1, w2, w3, iteB_pos (decide_eq_true (by simp [add])), iteB_pos (decide_eq_true (by simp [add])), iteB_pos (decide_eq_true (by simp [add])), mustR_dec (by omega), decide_eq_true (by rfl)]
    by_cases q : G.2.1 = []
    · rw [iteB_neg (by rw [decide_eq_true q]; rfl), p3f, fin]
    · have hβ : β = true := oA.began.2 q
      have hγ : ¬ γ = true := fun e => hb ⟨hβ, e⟩
      have q2 : H.2.1 = [] := by
        by_cases q3 : H.2.1 = []
        · exact q3
        · exact absurd (oB.began.2 q3) hγ
      rw [iteB_pos (by rw [decide_eq_false q]; rfl), decide_eq_true q2]
      exact (p3f _ _).trans fin
  · simp only [if_neg h1]
    have hd : (!decide (C.1 = 0)) = true := by rw [decide_eq_false h1]; rfl
    have many : (32 < G.1.length + H.1.length ∨ 64 < G.2.2.1.length + H.2.2.1.length ∨ 16 < G.2.2.2.length + H.2.2.2.length) → law10_GramLines.t4 C.1 G H zG = some (true, ()) := fun h => by
      unfold law10_GramLines.t4
      rw [iteB_pos hd, w1, w2, w3]
      by_cases k1 : 32 < G.1.length + H.1.length
      · rw [iteB_pos (decide_eq_true (by omega))]
      · rw [iteB_neg (decide_eq_false (by omega))]
        by_cases k2 : 64 < G.2.2.1.length + H.2.2.1.length
        · rw [iteB_pos (decide_eq_true (by omega))]
        · rw [iteB_neg (decide_eq_false (by omega)), decide_eq_true (by omega)]
    rcases h2 with ⟨k1, k2⟩ | k
    · have q := oA.began.1 k1
      have q2 := oB.began.1 k2
      rw [iteB_pos (by rw [decide_eq_false q]; rfl), decide_eq_false q2]
      exact (p3t _ _).trans (by rw [hd])
    · have m := many k
      by_cases q : G.2.1 = []
      · rw [iteB_neg (by rw [decide_eq_true q]; rfl), p3f, m]
      · rw [iteB_pos (by rw [decide_eq_false q]; rfl)]
        by_cases q2 : H.2.1 = []
        · rw [decide_eq_true q2]
          exact (p3f _ _).trans m
        · rw [decide_eq_false q2]
          exact (p3t _ _).trans (by rw [hd])
theorem gramLines_main (a b r : List UInt8) (hl : a.length + b.length + r.length ≤ 3900) (hr : 10 ∉ r) : law10_GramLines.p2 fuel a b r = some (true, ()) := by
  have e : law10_GramLines.p2 fuel a b r = law10_GramLines.t2 (law10_GramLines.p3 fuel) a b r := rfl
  rw [e]
  unfold law10_GramLines.t2
  have hs6 : List.length ([10, 32, 32, 10, 32, 35] : List UInt8) = 6 := rfl
  have hs1 : List.length ([10] : List UInt8) = 1 := rfl
  have l1 : (a ++ ([10, 32, 32, 10, 32, 35] : List UInt8)).length = a.length + 6 := by rw [List.length_append, hs6]
  have l2 : ((a ++ ([10, 32, 32, 10, 32, 35] : List UInt8)) ++ r).length = a.length + 6 + r.length := by rw [List.length_append, l1]
  have l3 : (((a ++ ([10, 32, 32, 10, 32, 35] : List UInt8)) ++ r) ++ [10]).length = a.length + 6 + r.length + 1 := by rw [List.length_append, l2, hs1]
  have l4 : ((((a ++ ([10, 32, 32, 10, 32, 35] : List UInt8)) ++ r) ++ [10]) ++ b).length = a.length + 6 + r.length + 1 + b.length := by rw [List.length_append, l3]
  rw [read_eq a (by omega), bindR_val, read_eq b (by omega), bindR_val, mustR_dec (by omega), mustR_dec (by omega), mustR_dec (by omega), mustR_dec (by omega), read_eq _ (by omega), bindR_val, rread_eq r (by omega), bindR_val]
  dsimp only
  have hT : (((a ++ ([10, 32, 32, 10, 32, 35] : List UInt8)) ++ r) ++ [10]) ++ b = (((a ++ sepT) ++ r) ++ [10]) ++ b := rfl
  rw [hT] at l4 ⊢
  rw [readS_short (s := a) (by omega), readS_short (s := b) (by omega), readS_short (s := r) (by omega), readS_short (s := (((a ++ sepT) ++ r) ++ [10]) ++ b) (by omega), wh_text, run_text a b r hr]
  have ca := run_codes (cutL 10 a) zG false
  have cb := run_codes (cutL 10 b) zG false
  have cr := run_codes (cutL 10 r) zG false
  have oka : Wh a = true → (runL (cutL 10 a) zG false).1 = 0 → Ok (runL (cutL 10 a) zG false).2.1 (runL (cutL 10 a) zG false).2.2 := fun h h0 => ok_run _ _ _ ok_zero (lines_ok (by omega) h) h0
  have okb : Wh b = true → (runL (cutL 10 b) zG false).1 = 0 → Ok (runL (cutL 10 b) zG false).2.1 (runL (cutL 10 b) zG false).2.2 := fun h h0 => ok_run _ _ _ ok_zero (lines_ok (by omega) h) h0
  have sim := fun β hG h0 => sim_run (runL (cutL 10 a) zG false).2.1 β hG (cutL 10 b) zG false (by simp) h0
  generalize runL (cutL 10 a) zG false = A at *
  generalize hB : runL (cutL 10 b) zG false = B at *
  generalize runL (cutL 10 r) zG false = R at *
  cases hwr : Wh r with
  | false =>
    rw [if_pos rfl, Bool.false_and, Bool.and_false, if_pos rfl, iteB_pos (by rfl)]
    rfl
  | true =>
    have hr2 : decide ((if true = false then (zG, (2 : Int)) else if R.1 = 0 then (R.2.1, 0) else (zG, R.1)).2 = 2) = false := by
      refine decide_eq_false ?_
      rw [if_neg (by simp)]
      split
      · intro h; cases h
      · exact cr.1
    rw [iteB_neg hr2, Bool.true_and]
    cases hwa : Wh a with
    | false =>
      rw [Bool.false_and]
      simp only [if_pos trivial]
      rfl
    | true =>
      rw [Bool.true_and]
      simp only [if_neg (show ¬ (true = false) by simp)]
      cases hwb : Wh b with
      | false =>
        simp only [if_pos trivial]
        by_cases ha : A.1 = 0
        · simp only [if_pos ha]
          rfl
        · simp only [if_neg ha]
          rw [iteB_pos (by rw [decide_eq_false ha]; rfl)]
          by_cases h2 : (2 : Int) = A.1
          · rw [iteB_pos (decide_eq_true h2)]
          · rw [iteB_neg (decide_eq_false h2)]
            rfl
      | true =>
        simp only [if_neg (show ¬ (true = false) by simp)]
        by_cases ha : A.1 = 0
        · simp only [if_pos ha]
          rw [iteB_neg (by rfl)]
          by_cases hb0 : B.1 = 0
          · simp only [if_pos hb0]
            rw [iteB_neg (by rfl)]
            have oA := oka hwa ha
            have oB := okb hwb hb0
            have hs := sim A.2.2 (fun h => by
              have := oA.began
              rw [h] at this
              by_cases q : A.2.1.2.1 = []
              · exact q
              · have := this.2 q; cases this) hb0
            rw [add_zero, Bool.or_false] at hs
            generalize runL (cutL 10 b) A.2.1 A.2.2 = C at *
            exact lines_end A.2.1 B.2.1 A.2.2 B.2.2 C oA oB hs
          · simp only [if_neg hb0]
            rw [iteB_pos (by rw [decide_eq_false hb0]; rfl), iteB_pos (by rw [decide_eq_false cb.1]; rfl)]
        · simp only [if_neg ha]
          rw [iteB_pos (by rw [decide_eq_false ha]; rfl), iteB_pos (by simp)]
theorem gramLines_law (a b r : List UInt8) (ha : a.length ≤ 140737488355328) (hb : b.length ≤ 140737488355328) (hr : r.length ≤ 140737488355328) : s_law10_GramLines (a, (b, (r, ()))) = some (true, ()) := by
  have e : s_law10_GramLines (a, (b, (r, ()))) = law10_GramLines.t0 (law10_GramLines.p1 fuel fuel) (a, (b, (r, ()))) := rfl
  rw [e]
  unfold law10_GramLines.t0
  rw [alive_eq, bindR_val, notB_eq, Bool.not_true, iteB_false]
  dsimp only
  have w1 : w64 (((a.length : Nat) : Int) + ((b.length : Nat) : Int)) = ((a.length + b.length : Nat) : Int) := by rw [w64_id (by omega) (by omega)]; omega
  have w2 : w64 (((a.length + b.length : Nat) : Int) + ((r.length : Nat) : Int)) = ((a.length + b.length + r.length : Nat) : Int) := by rw [w64_id (by omega) (by omega)]; omega
  rw [w1, w2]
  by_cases h : 3900 < a.length + b.length + r.length
  · rw [iteB_pos (decide_eq_true (by omega))]
  · rw [iteB_neg (decide_eq_false (by omega))]
    have loop : ∀ (d n i : Nat), i + d = r.length → d < n → 10 ∉ r.take i → law10_GramLines.p1 fuel n a b r (i : Int) = some (true, ()) := by
      intro d
      induction d with
      | zero =>
        intro n i hi hn hno
        cases n with
        | zero => omega
        | succ n =>
          have : i = r.length := by omega
          subst this
          have e1 : law10_GramLines.p1 fuel (n + 1) a b r (r.length : Int) = law10_GramLines.t1 (law10_GramLines.p1 fuel n) (law10_GramLines.p2 fuel) a b r (r.length : Int) := rfl
          unfold law10_GramLines.t1 at e1
          rw [e1, iteB_neg lt_no]
          rw [List.take_length] at hno
          exact gramLines_main a b r (by omega) hno
      | succ d ih =>
        intro n i hi hn hno
        cases n with
        | zero => omega
        | succ n =>
          have hlt : i < r.length := by omega
          have e1 : law10_GramLines.p1 fuel (n + 1) a b r (i : Int) = law10_GramLines.t1 (law10_GramLines.p1 fuel n) (law10_GramLines.p2 fuel) a b r (i : Int) := rfl
          unfold law10_GramLines.t1 at e1
          rw [e1, iteB_pos (lt_dec hlt), withinR_nat hlt, byteAt_eq hlt]
          by_cases hc : r[i] = 10
          · rw [iteB_pos (decide_eq_true (by rw [hc]; rfl))]
          · rw [iteB_neg (decide_eq_false fun e => hc (ext8 (by have : (((r[i]).toNat : Nat) : Int) = ((10 : UInt8).toNat : Int) := e; omega))), w64_succ (by omega)]
            exact ih n (i + 1) (by omega) (by omega) (take_succ_mem hlt hno hc)
    exact loop r.length fuel 0 (by omega) (by have := fuel_gt r.length (by omega); omega) (by simp)
end Go.Proofs.YtogipciicekmoaaDoor.Vm.Gr
namespace Go.Proofs.YtogipciicekmoaaDoor.Vm.Gr
open Go Go.Proofs.YtogipciicekmoaaDoor.Vm
theorem F_lines : F_law10_GramLines.f = s_law10_GramLines := by kernel_rfl
end Go.Proofs.YtogipciicekmoaaDoor.Vm.Gr
