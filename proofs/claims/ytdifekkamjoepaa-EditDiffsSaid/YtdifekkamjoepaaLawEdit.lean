/- The plain laws of edits. -/
import Derived.Test.YtdifekkamjoepaaFnsEdit2
import Derived.Test.YtdifekkamjoepaaLawPlace
namespace Go.Proofs.Ytdifekkamjoepaa.Vm.Rp
open Go Go.Proofs.Ytdifekkamjoepaa.Vm
set_option linter.unusedVariables false
section
variable {z : Nat}


def sgn (n : Int) : Bool := decide (0 ≤ n) && (decide (n < 1114112) && (decide (n < 55296) || decide (57343 < n)))
def enc (n : Nat) : List UInt8 :=
  if n < 128 then [UInt8.ofNat n]
  else if n < 2048 then [UInt8.ofNat (192 + n / 64), UInt8.ofNat (128 + n % 64)]
  else if n < 65536 then [UInt8.ofNat (224 + n / 4096), UInt8.ofNat (128 + n / 64 % 64), UInt8.ofNat (128 + n % 64)]
  else [UInt8.ofNat (240 + n / 262144), UInt8.ofNat (128 + n / 4096 % 64), UInt8.ofNat (128 + n / 64 % 64), UInt8.ofNat (128 + n % 64)]
def n2 (a d : UInt8) : Nat := 64 * (a.toNat - 192) + d.toNat % 64
def n3 (a d e : UInt8) : Nat := 64 * (64 * (a.toNat - 224) + d.toNat % 64) + e.toNat % 64
def n4 (a d e f : UInt8) : Nat := 64 * (64 * (64 * (a.toNat - 240) + d.toNat % 64) + e.toNat % 64) + f.toNat % 64
def no : Int × Int := (-1, 0)
def dec2 (a : UInt8) : List UInt8 → Int × Int
  | d :: _ => if (isF d && decide (128 ≤ n2 a d)) = true then ((n2 a d : Int), 2) else no
  | _ => no
def dec3 (a : UInt8) : List UInt8 → Int × Int
  | d :: e :: _ => if (isF d && isF e && decide (2048 ≤ n3 a d e) && sgn (n3 a d e)) = true then ((n3 a d e : Int), 3) else no
  | _ => no
def dec4 (a : UInt8) : List UInt8 → Int × Int
  | d :: e :: f :: _ => if (isF d && isF e && isF f && decide (65536 ≤ n4 a d e f) && sgn (n4 a d e f)) = true then ((n4 a d e f : Int), 4) else no
  | _ => no
def dec : List UInt8 → Int × Int
  | [] => no
  | a :: r => if a.toNat < 128 then ((a.toNat : Int), 1) else if a.toNat < 192 then no else if a.toNat < 224 then dec2 a r else if a.toNat < 240 then dec3 a r else if a.toNat < 248 then dec4 a r else no

theorem isSign_eq (n : Int) : s_runes_isSign (n, ()) = some (sgn n, ()) := by
  simp only [s_runes_isSign, runes_isSign.p0, runes_isSign.t0, iteB_dec, sgn]
  by_cases h0 : 0 ≤ n <;> by_cases h1 : n < 1114112 <;> by_cases h2 : n < 55296 <;> simp [h0, h1, h2]
theorem rsign_eq (n : Int) : s_ref01_Sign (n, ()) = some (sgn n, ()) := by
  simp only [s_ref01_Sign, ref01_Sign.p0, ref01_Sign.t0, iteB_dec, sgn, notB_eq]
  by_cases h0 : 0 ≤ n <;> by_cases h1 : n < 1114112 <;> rcases Int.lt_or_le n 55296 with h2 | h2 <;> rcases Int.lt_or_le 57343 n with h3 | h3 <;> simp [h0, h1, h2, h3, Int.not_le.2, Int.not_lt.2] <;> omega
theorem byteAt0 (a : UInt8) (r : List UInt8) : byteAt (a :: r) 0 = (a.toNat : Int) := rfl
theorem shapeOf_eq (c : UInt8) : s_runes_shapeOf ((c.toNat : Int), ()) = some ((if c.toNat < 128 then (1, 0, 0) else if c.toNat < 192 then (0, 0, 0) else if c.toNat < 224 then (2, 192, 128) else if c.toNat < 240 then (3, 224, 2048) else if c.toNat < 248 then (4, 240, 65536) else (0, 0, 0)), ()) := by
  have hc := c.toNat_lt
  simp only [s_runes_shapeOf, runes_shapeOf.p0, runes_shapeOf.t0, runes_shapeOf.p1, runes_shapeOf.t1, runes_shapeOf.p2, runes_shapeOf.t2, runes_shapeOf.p3, runes_shapeOf.t3, runes_shapeOf.p4, runes_shapeOf.t4, iteB_dec, iteB_false]
  generalize c.toNat = x at *
  by_cases h1 : x < 128
  · rw [if_pos (by omega), if_pos h1]
  rw [if_neg (by omega), if_neg h1]
  by_cases h2 : x < 192
  · rw [if_neg (by omega), if_neg (by omega), if_neg (by omega), if_pos h2]
  rw [if_pos (by omega), if_neg h2]
  by_cases h3 : x < 224
  · rw [if_pos (by omega), if_pos h3]
  rw [if_neg (by omega), if_pos (by omega), if_neg h3]
  by_cases h4 : x < 240
  · rw [if_pos (by omega), if_pos h4]
  rw [if_neg (by omega), if_pos (by omega), if_neg h4]
  by_cases h5 : x < 248
  · rw [if_pos (by omega), if_pos h5]
  rw [if_neg (by omega), if_neg h5]

theorem p3_step (k m : Nat) (s : List UInt8) (x : Int) (i : Nat) (n : Nat) (hd le : Int) (hi : i < n) (hn : n ≤ 10) (hs : i < s.length) (h0 : 0 ≤ x) (h1 : x < 70368744177664) :
    runes_First.p3 k (m + 1) s x i (n, hd, le) = if isF (s.getD i 0) = true then runes_First.p3 k m s (64 * x + ((s.getD i 0).toNat % 64 : Nat)) (i + 1 : Nat) (n, hd, le) else some ((-1, 0), ()) := by
  obtain ⟨z, rfl⟩ : ∃ z : Nat, x = z := ⟨x.toNat, by omega⟩
  show runes_First.t3 (runes_First.p3 k m) (runes_First.p4 k) s z i (n, hd, le) = _
  simp only [runes_First.t3, iteB_dec]
  rw [if_pos (by omega), withinR_nat hs]
  show bindR (s_runes_isFollower (((s.getD i 0).toNat : Int), ())) _ = _
  rw [isFollower_eq, bindR_val]
  have hb := (s.getD i 0).toNat_lt
  cases hF : isF (s.getD i 0) with
  | false => rfl
  | true =>
    simp only [notB_true, iteB_false, if_true, withinR_nat hs]
    rw [w64_id (n := (i : Int) + 1) (by omega) (by omega)]
    have e : w64 (bitI .and .u8 (byteAt s i) 63) = (((s.getD i 0).toNat % 64 : Nat) : Int) := by
      show w64 (bitI .and .u8 ((s.getD i 0).toNat : Int) 63) = _
      rw [(bitI_and_u8 _ hb).1, w64_nat (by omega)]
    rw [e, bitI_shl_or z _ (by omega) (by omega)]
    congr 1
theorem p3_end (k m : Nat) (s : List UInt8) (x : Int) (n : Nat) (hd le : Int) :
    runes_First.p3 k (m + 1) s x n (n, hd, le) = some ((if le ≤ x ∧ sgn x = true then (x, (n : Int)) else no), ()) := by
  show runes_First.t3 (runes_First.p3 k m) (runes_First.p4 k) s x n (n, hd, le) = _
  simp only [runes_First.t3, iteB_dec]
  rw [if_neg (by omega)]
  simp only [runes_First.p4, runes_First.t4, runes_First.p5, runes_First.t5, runes_First.p6, runes_First.t6, iteB_dec, isSign_eq, bindR_val, iteB_true, notB_eq]
  by_cases h : x < le
  · rw [if_pos h, if_neg (by omega)]; rfl
  · rw [if_neg h]
    cases hs : sgn x with
    | true => rw [if_pos ⟨by omega, rfl⟩]; rfl
    | false => rw [if_neg (by simp)]; rfl

theorem fuel10 : ∃ z, fuel = z + 10 := ⟨4611686018427387894, rfl⟩
theorem first_gen (s : List UInt8) : runes_First.t0 (runes_First.p1 (z + 10)) s = some (dec s, ()) := by
  cases s with
  | nil => rfl
  | cons a r =>
    have ha := a.toNat_lt
    simp only [runes_First.t0, iteB_dec]
    rw [if_neg (by simp), withinR_zero (by simp), byteAt0, shapeOf_eq, bindR_val]
    simp only [dec]
    by_cases h1 : a.toNat < 128
    · rw [if_pos h1, if_pos h1]
      simp only [runes_First.p1, runes_First.t1, iteB_dec, runes_First.p2, runes_First.t2]
      rw [if_neg (by decide), if_neg (by simp; omega), withinR_zero (by simp), byteAt0, w64_id (n := (a.toNat : Int)) (by omega) (by omega), w64_id (by omega) (by omega)]
      rw [show ((1 : Int), (0 : Int), (0 : Int)) = (((1 : Nat) : Int), 0, 0) from rfl, show (1 : Int) = ((1 : Nat) : Int) from rfl, p3_end (z + 10) (z + 9)]
      have : sgn ((a.toNat : Int) - 0) = true := by simp [sgn]; omega
      rw [if_pos ⟨by omega, this⟩]; simp
    rw [if_neg h1, if_neg h1]
    by_cases h2 : a.toNat < 192
    · rw [if_pos h2, if_pos h2]; rfl
    rw [if_neg h2, if_neg h2]
    by_cases h3 : a.toNat < 224
    · rw [if_pos h3, if_pos h3]
      simp only [runes_First.p1, runes_First.t1, iteB_dec, runes_First.p2, runes_First.t2]
      rw [if_neg (by decide)]
      cases r with
      | nil => rfl
      | cons d r =>
        rw [if_neg (by simp; omega), withinR_zero (by simp), byteAt0, w64_id (n := (a.toNat : Int)) (by omega) (by omega), w64_id (by omega) (by omega)]
        rw [show ((2 : Int), (192 : Int), (128 : Int)) = (((2 : Nat) : Int), 192, 128) from rfl, show (1 : Int) = ((1 : Nat) : Int) from rfl, p3_step (z + 10) (z + 9) _ _ 1 2 _ _ (by omega) (by omega) (by simp) (by omega) (by omega)]
        simp only [List.getD_cons_succ, List.getD_cons_zero, dec2]
        cases hF : isF d with
        | false => rfl
        | true =>
          rw [if_pos rfl, p3_end (z + 10) (z + 8)]
          have e : 64 * ((a.toNat : Int) - 192) + ((d.toNat % 64 : Nat) : Int) = (n2 a d : Nat) := by simp only [n2]; omega
          have hn : n2 a d < 2048 := by simp only [n2]; omega
          have hs : sgn (n2 a d : Nat) = true := by
            simp only [sgn, Bool.and_eq_true, Bool.or_eq_true, decide_eq_true_eq]; omega
          rw [e, hs]
          by_cases hl : 128 ≤ n2 a d
          · rw [if_pos ⟨by omega, rfl⟩, if_pos (by simp [hl])]; rfl
          · rw [if_neg (fun h => by have := h.1; omega), if_neg (by simp [hl])]
    rw [if_neg h3, if_neg h3]
    by_cases h4 : a.toNat < 240
    · rw [if_pos h4, if_pos h4]
      simp only [runes_First.p1, runes_First.t1, iteB_dec, runes_First.p2, runes_First.t2]
      rw [if_neg (by decide)]
      match r with
      | [] => rfl
      | [d] => rfl
      | d :: e :: r =>
        rw [if_neg (by simp; omega), withinR_zero (by simp), byteAt0, w64_id (n := (a.toNat : Int)) (by omega) (by omega), w64_id (by omega) (by omega)]
        rw [show ((3 : Int), (224 : Int), (2048 : Int)) = (((3 : Nat) : Int), 224, 2048) from rfl, show (1 : Int) = ((1 : Nat) : Int) from rfl, p3_step (z + 10) (z + 9) _ _ 1 3 _ _ (by omega) (by omega) (by simp) (by omega) (by omega)]
        simp only [List.getD_cons_succ, List.getD_cons_zero, dec3]
        cases hF : isF d with
        | false => rfl
        | true =>
          rw [if_pos rfl, p3_step (z + 10) (z + 8) _ _ 2 3 _ _ (by omega) (by omega) (by simp) (by omega) (by omega)]
          simp only [List.getD_cons_succ, List.getD_cons_zero]
          cases hE : isF e with
          | false => rfl
          | true =>
            rw [if_pos rfl, p3_end (z + 10) (z + 7)]
            have e1 : 64 * (64 * ((a.toNat : Int) - 224) + ((d.toNat % 64 : Nat) : Int)) + ((e.toNat % 64 : Nat) : Int) = (n3 a d e : Nat) := by simp only [n3]; omega
            rw [e1]
            by_cases hl : 2048 ≤ n3 a d e <;> cases hs : sgn (n3 a d e : Nat) <;> simp [hl] <;> omega
    rw [if_neg h4, if_neg h4]
    by_cases h5 : a.toNat < 248
    · rw [if_pos h5, if_pos h5]
      simp only [runes_First.p1, runes_First.t1, iteB_dec, runes_First.p2, runes_First.t2]
      rw [if_neg (by decide)]
      match r with
      | [] => rfl
      | [d] => rfl
      | [d, e] => rfl
      | d :: e :: f :: r =>
        rw [if_neg (by simp; omega), withinR_zero (by simp), byteAt0, w64_id (n := (a.toNat : Int)) (by omega) (by omega), w64_id (by omega) (by omega)]
        rw [show ((4 : Int), (240 : Int), (65536 : Int)) = (((4 : Nat) : Int), 240, 65536) from rfl, show (1 : Int) = ((1 : Nat) : Int) from rfl, p3_step (z + 10) (z + 9) _ _ 1 4 _ _ (by omega) (by omega) (by simp) (by omega) (by omega)]
        simp only [List.getD_cons_succ, List.getD_cons_zero, dec4]
        cases hF : isF d with
        | false => rfl
        | true =>
          rw [if_pos rfl, p3_step (z + 10) (z + 8) _ _ 2 4 _ _ (by omega) (by omega) (by simp) (by omega) (by omega)]
          simp only [List.getD_cons_succ, List.getD_cons_zero]
          cases hE : isF e with
          | false => rfl
          | true =>
            rw [if_pos rfl, p3_step (z + 10) (z + 7) _ _ 3 4 _ _ (by omega) (by omega) (by simp) (by omega) (by omega)]
            simp only [List.getD_cons_succ, List.getD_cons_zero]
            cases hG : isF f with
            | false => rfl
            | true =>
              rw [if_pos rfl, p3_end (z + 10) (z + 6)]
              have e1 : 64 * (64 * (64 * ((a.toNat : Int) - 240) + ((d.toNat % 64 : Nat) : Int)) + ((e.toNat % 64 : Nat) : Int)) + ((f.toNat % 64 : Nat) : Int) = (n4 a d e f : Nat) := by simp only [n4]; omega
              rw [e1]
              by_cases hl : 65536 ≤ n4 a d e f <;> cases hs : sgn (n4 a d e f : Nat) <;> simp [hl] <;> omega
    rw [if_neg h5, if_neg h5]; rfl
theorem sgn_nat {n : Int} (h : sgn n = true) : ∃ m : Nat, n = m ∧ m < 1114112 ∧ (m < 55296 ∨ 57343 < m) := by
  simp only [sgn, Bool.and_eq_true, Bool.or_eq_true, decide_eq_true_eq] at h
  exact ⟨n.toNat, by omega, by omega, by omega⟩
theorem w8_nat {n : Nat} (h : n < 256) : w8 (n : Int) = n := w8_id (by omega) (by omega)

theorem rbytes_eq (n : Int) : s_ref01_Bytes (n, ()) = some (if sgn n = true then enc n.toNat else [], ()) := by
  show ref01_Bytes.t0 n = _
  simp only [ref01_Bytes.t0, rsign_eq, bindR_val]
  cases hs : sgn n with
  | false => rfl
  | true =>
    obtain ⟨m, rfl, h1, h2⟩ := sgn_nat hs
    simp only [notB_true, iteB_false, iteB_dec, if_true, Int.toNat_natCast, enc]
    have a1 : w64 (Int.tdiv (m : Int) 64) = ((m / 64 : Nat) : Int) := w64_nat (n := m / 64) (by omega)
    have a2 : w64 (Int.tdiv (m : Int) 4096) = ((m / 4096 : Nat) : Int) := w64_nat (n := m / 4096) (by omega)
    have a3 : w64 (Int.tdiv (m : Int) 262144) = ((m / 262144 : Nat) : Int) := w64_nat (n := m / 262144) (by omega)
    have b1 : ∀ x : Nat, Int.tmod (x : Int) 64 = ((x % 64 : Nat) : Int) := fun x => rfl
    have c : ∀ (x y : Nat), x + y < 256 → w8 (w64 ((x : Int) + (y : Int))) = ((x + y : Nat) : Int) := fun x y h => by
      rw [w64_id (by omega) (by omega), w8_id (by omega) (by omega)]; omega
    have c192 := fun y => c 192 y
    have c128 := fun y => c 128 y
    have c224 := fun y => c 224 y
    have c240 := fun y => c 240 y
    simp only [Int.cast_ofNat_Int] at c192 c128 c224 c240
    by_cases d1 : m < 128
    · rw [if_pos (by omega), if_pos d1, w8_nat (by omega)]; rfl
    rw [if_neg (by omega), if_neg d1]
    by_cases d2 : m < 2048
    · rw [if_pos (by omega), if_pos d2, a1, b1, c192 _ (by omega), c128 _ (by omega)]; rfl
    rw [if_neg (by omega), if_neg d2]
    by_cases d3 : m < 65536
    · rw [if_pos (by omega), if_pos d3, a1, a2, b1, b1, c224 _ (by omega), c128 _ (by omega), c128 _ (by omega)]; rfl
    rw [if_neg (by omega), if_neg d3, a1, a2, a3, b1, b1, b1, c240 _ (by omega), c128 _ (by omega), c128 _ (by omega), c128 _ (by omega)]
    rfl

theorem toNat_ofNat (n : Nat) (h : n < 256) : (UInt8.ofNat n).toNat = n := by
  rw [UInt8.toNat_ofNat']; omega
theorem isF_ofNat (n : Nat) (h : n < 64) : isF (UInt8.ofNat (128 + n)) = true := by
  unfold isF; rw [toNat_ofNat _ (by omega)]; simp; omega
theorem sgn_of (m : Nat) (h1 : m < 1114112) (h2 : m < 55296 ∨ 57343 < m) : sgn m = true := by
  simp only [sgn, Bool.and_eq_true, Bool.or_eq_true, decide_eq_true_eq]; omega
theorem dec_enc (m : Nat) (h1 : m < 1114112) (h2 : m < 55296 ∨ 57343 < m) (s : List UInt8) : dec (enc m ++ s) = ((m : Int), ((enc m).length : Int)) := by
  unfold enc
  by_cases d1 : m < 128
  · rw [if_pos d1]
    simp only [List.cons_append, List.nil_append, dec, toNat_ofNat m (by omega)]
    rw [if_pos d1]; rfl
  rw [if_neg d1]
  by_cases d2 : m < 2048
  · rw [if_pos d2]
    simp only [List.cons_append, List.nil_append, dec, toNat_ofNat (192 + m / 64) (by omega), dec2, isF_ofNat _ (Nat.mod_lt m (by omega : 0 < 64))]
    have e : n2 (UInt8.ofNat (192 + m / 64)) (UInt8.ofNat (128 + m % 64)) = m := by
      unfold n2; rw [toNat_ofNat _ (by omega), toNat_ofNat _ (by omega)]; omega
    rw [if_neg (by omega), if_neg (by omega), if_pos (by omega), e, if_pos (by simp; omega)]; rfl
  rw [if_neg d2]
  by_cases d3 : m < 65536
  · rw [if_pos d3]
    simp only [List.cons_append, List.nil_append, dec, toNat_ofNat (224 + m / 4096) (by omega), dec3, isF_ofNat _ (Nat.mod_lt m (by omega : 0 < 64)), isF_ofNat _ (Nat.mod_lt (m / 64) (by omega : 0 < 64))]
    have e : n3 (UInt8.ofNat (224 + m / 4096)) (UInt8.ofNat (128 + m / 64 % 64)) (UInt8.ofNat (128 + m % 64)) = m := by
      unfold n3; rw [toNat_ofNat _ (by omega), toNat_ofNat _ (by omega), toNat_ofNat _ (by omega)]; omega
    rw [if_neg (by omega), if_neg (by omega), if_neg (by omega), if_pos (by omega), e, if_pos (by simp [sgn_of m h1 h2]; omega)]; rfl
  rw [if_neg d3]
  simp only [List.cons_append, List.nil_append, dec, toNat_ofNat (240 + m / 262144) (by omega), dec4, isF_ofNat _ (Nat.mod_lt m (by omega : 0 < 64)), isF_ofNat _ (Nat.mod_lt (m / 64) (by omega : 0 < 64)), isF_ofNat _ (Nat.mod_lt (m / 4096) (by omega : 0 < 64))]
  have e : n4 (UInt8.ofNat (240 + m / 262144)) (UInt8.ofNat (128 + m / 4096 % 64)) (UInt8.ofNat (128 + m / 64 % 64)) (UInt8.ofNat (128 + m % 64)) = m := by
    unfold n4; rw [toNat_ofNat _ (by omega), toNat_ofNat _ (by omega), toNat_ofNat _ (by omega), toNat_ofNat _ (by omega)]; omega
  rw [if_neg (by omega), if_neg (by omega), if_neg (by omega), if_neg (by omega), if_pos (by omega), e, if_pos (by simp [sgn_of m h1 h2]; omega)]; rfl

/-- What is read is a sign, and its bytes stand there. -/
theorem ext8 {a b : UInt8} (h : a.toNat = b.toNat) : a = b := UInt8.toNat_inj.1 h
theorem isF_iff {d : UInt8} : isF d = true ↔ 128 ≤ d.toNat ∧ d.toNat ≤ 191 := by unfold isF; simp
theorem dec_spec (s : List UInt8) : (dec s = no) ∨ ∃ (m : Nat) (r : List UInt8), dec s = ((m : Int), ((enc m).length : Int)) ∧ s = enc m ++ r ∧ m < 1114112 ∧ (m < 55296 ∨ 57343 < m) := by
  cases s with
  | nil => exact .inl rfl
  | cons a r =>
    have ha := a.toNat_lt
    simp only [dec]
    by_cases h1 : a.toNat < 128
    · rw [if_pos h1]
      refine .inr ⟨a.toNat, r, ?_, ?_, by omega, by omega⟩
      · simp [enc, h1]
      · simp [enc, h1]
    rw [if_neg h1]
    by_cases h2 : a.toNat < 192
    · rw [if_pos h2]; exact .inl rfl
    rw [if_neg h2]
    by_cases h3 : a.toNat < 224
    · rw [if_pos h3]
      cases r with
      | nil => exact .inl rfl
      | cons d r =>
        simp only [dec2]
        by_cases hc : (isF d && decide (128 ≤ n2 a d)) = true
        · rw [if_pos hc]
          simp only [Bool.and_eq_true, decide_eq_true_eq, isF_iff] at hc
          obtain ⟨hd, hl⟩ := hc
          have hn : n2 a d < 2048 := by unfold n2; omega
          have e : enc (n2 a d) = [a, d] := by
            unfold enc
            rw [if_neg (by omega), if_pos hn]
            have k1 : UInt8.ofNat (192 + n2 a d / 64) = a := ext8 (by rw [toNat_ofNat _ (by omega)]; unfold n2; omega)
            have k2 : UInt8.ofNat (128 + n2 a d % 64) = d := ext8 (by rw [toNat_ofNat _ (by omega)]; unfold n2; omega)
            rw [k1, k2]
          exact .inr ⟨n2 a d, r, by rw [e]; rfl, by rw [e]; rfl, by omega, by omega⟩
        · rw [if_neg hc]; exact .inl rfl
    rw [if_neg h3]
    by_cases h4 : a.toNat < 240
    · rw [if_pos h4]
      match r with
      | [] => exact .inl rfl
      | [d] => exact .inl rfl
      | d :: e :: r =>
        simp only [dec3]
        by_cases hc : (isF d && isF e && decide (2048 ≤ n3 a d e) && sgn (n3 a d e)) = true
        · rw [if_pos hc]
          simp only [Bool.and_eq_true, decide_eq_true_eq, isF_iff] at hc
          obtain ⟨⟨⟨hd, he⟩, hl⟩, hs⟩ := hc
          obtain ⟨m, hm, g1, g2⟩ := sgn_nat hs
          obtain rfl : n3 a d e = m := by omega
          have hn : n3 a d e < 65536 := by unfold n3; omega
          have en : enc (n3 a d e) = [a, d, e] := by
            unfold enc
            rw [if_neg (by omega), if_neg (by omega), if_pos hn]
            have k1 : UInt8.ofNat (224 + n3 a d e / 4096) = a := ext8 (by rw [toNat_ofNat _ (by omega)]; unfold n3; omega)
            have k2 : UInt8.ofNat (128 + n3 a d e / 64 % 64) = d := ext8 (by rw [toNat_ofNat _ (by omega)]; unfold n3; omega)
            have k3 : UInt8.ofNat (128 + n3 a d e % 64) = e := ext8 (by rw [toNat_ofNat _ (by omega)]; unfold n3; omega)
            rw [k1, k2, k3]
          exact .inr ⟨n3 a d e, r, by rw [en]; rfl, by rw [en]; rfl, g1, g2⟩
        · rw [if_neg hc]; exact .inl rfl
    rw [if_neg h4]
    by_cases h5 : a.toNat < 248
    · rw [if_pos h5]
      match r with
      | [] => exact .inl rfl
      | [d] => exact .inl rfl
      | [d, e] => exact .inl rfl
      | d :: e :: f :: r =>
        simp only [dec4]
        by_cases hc : (isF d && isF e && isF f && decide (65536 ≤ n4 a d e f) && sgn (n4 a d e f)) = true
        · rw [if_pos hc]
          simp only [Bool.and_eq_true, decide_eq_true_eq, isF_iff] at hc
          obtain ⟨⟨⟨⟨hd, he⟩, hf⟩, hl⟩, hs⟩ := hc
          obtain ⟨m, hm, g1, g2⟩ := sgn_nat hs
          obtain rfl : n4 a d e f = m := by omega
          have en : enc (n4 a d e f) = [a, d, e, f] := by
            unfold enc
            rw [if_neg (by omega), if_neg (by omega), if_neg (by omega)]
            have k1 : UInt8.ofNat (240 + n4 a d e f / 262144) = a := ext8 (by rw [toNat_ofNat _ (by omega)]; unfold n4; omega)
            have k2 : UInt8.ofNat (128 + n4 a d e f / 4096 % 64) = d := ext8 (by rw [toNat_ofNat _ (by omega)]; unfold n4; omega)
            have k3 : UInt8.ofNat (128 + n4 a d e f / 64 % 64) = e := ext8 (by rw [toNat_ofNat _ (by omega)]; unfold n4; omega)
            have k4 : UInt8.ofNat (128 + n4 a d e f % 64) = f := ext8 (by rw [toNat_ofNat _ (by omega)]; unfold n4; omega)
            rw [k1, k2, k3, k4]
          exact .inr ⟨n4 a d e f, r, by rw [en]; rfl, by rw [en]; rfl, g1, g2⟩
        · rw [if_neg hc]; exact .inl rfl
    rw [if_neg h5]; exact .inl rfl
theorem enc_len (m : Nat) : 1 ≤ (enc m).length ∧ (enc m).length ≤ 4 := by
  unfold enc; split <;> (try split) <;> (try split) <;> simp


def b0 (s : List UInt8) (i : Nat) : Int := ((s.getD i 0).toNat : Int)
theorem b0_range (s : List UInt8) (i : Nat) : 0 ≤ b0 s i ∧ b0 s i < 256 := by
  have := (s.getD i 0).toNat_lt; unfold b0; omega
def cond (s : List UInt8) (k : Nat) (n f : Int) : Prop := 0 ≤ f ∧ sgn n = true ∧ enc n.toNat = s.take k
instance (s : List UInt8) (k : Nat) (n f : Int) : Decidable (cond s k n f) := inferInstanceAs (Decidable (_ ∧ _ ∧ _))

theorem rp6 (k : Nat) (a1 : ref01_First.T1) (s : List UInt8) (x4 : Nat) (x5 x8 : Int) (h : x4 ≤ s.length) (h4 : x4 < 10) :
    ref01_First.p6 k a1 s x4 x5 x8 = if cond s x4 x5 x8 then some ((x5, (x4 : Int)), ()) else a1 s (x4 + 1 : Nat) := by
  have e9 : ref01_First.p9 k a1 s x4 = a1 s (x4 + 1 : Nat) := by
    show a1 s (w64 ((x4 : Int) + 1)) = _
    rw [w64_id (by omega) (by omega)]; rfl
  show ref01_First.t6 (ref01_First.p8 k a1) s x4 x5 x8 = _
  have e8 : ∀ b, ref01_First.p8 k a1 s x4 x5 b = if b = true then some ((x5, (x4 : Int)), ()) else a1 s (x4 + 1 : Nat) := fun b => by
    show iteB b (some ((x5, (x4 : Int)), ())) (ref01_First.p9 k a1 s x4) = _
    rw [e9, iteB_eq]
  simp only [ref01_First.t6, rsign_eq, bindR_val, iteB_dec, rbytes_eq, e8, cond]
  by_cases h0 : 0 ≤ x8
  · rw [if_pos h0]
    by_cases hs : sgn x5 = true
    · rw [iteB_pos hs, mustR_dec (by omega), mustR_dec (by omega)]
      simp only [hs, if_true, Int.toNat_natCast, List.drop_zero, decide_eq_true_eq, true_and, h0]
    · rw [iteB_neg (by simpa using hs)]; simp [hs]
  · rw [if_neg h0]; simp [h0]
theorem rp7_step (k m : Nat) (a1 : ref01_First.T1) (s : List UInt8) (x4 : Nat) (x5 x8 : Int) (i : Nat) (hi : i < x4) (h4 : x4 < 10) (hs : x4 ≤ s.length) (h0 : -1000000000 ≤ x5) (h1 : x5 ≤ 1000000000) :
    ref01_First.p7 k a1 (m + 1) s x4 x5 x8 i = ref01_First.p7 k a1 m s x4 (64 * x5 + b0 s i % 64) x8 (i + 1 : Nat) := by
  have hb := b0_range s i
  show ref01_First.t7 (ref01_First.p7 k a1 m) (ref01_First.p6 k a1) s x4 x5 x8 i = _
  simp only [ref01_First.t7, iteB_dec]
  rw [if_pos (by omega), withinR_nat (by omega)]
  have e : Int.tmod (byteAt s i) 64 = b0 s i % 64 := rfl
  rw [e, w64_id (n := b0 s i % 64) (by omega) (by omega), w64_id (n := 64 * x5) (by omega) (by omega), w64_id (by omega) (by omega), w64_id (by omega) (by omega)]; rfl
theorem rp7_end (k m : Nat) (a1 : ref01_First.T1) (s : List UInt8) (x4 : Nat) (x5 x8 : Int) : ref01_First.p7 k a1 (m + 1) s x4 x5 x8 x4 = ref01_First.p6 k a1 s x4 x5 x8 := by
  show ref01_First.t7 (ref01_First.p7 k a1 m) (ref01_First.p6 k a1) s x4 x5 x8 x4 = _
  simp only [ref01_First.t7, iteB_dec]
  rw [if_neg (by omega)]
theorem rp4 (k : Nat) (a1 : ref01_First.T1) (s : List UInt8) (x4 : Nat) (h4 : x4 < 10) (hs : x4 ≤ s.length) : ∀ (m i : Nat) (x5 : Int), x4 < m + i → i ≤ x4 → ref01_First.p4 k a1 m s x4 x5 i = ref01_First.p5 k a1 s x4
  | 0, i, x5, h, hi => by omega
  | m + 1, i, x5, h, hi => by
    show ref01_First.t4 (ref01_First.p4 k a1 m) (ref01_First.p5 k a1) s x4 x5 i = _
    simp only [ref01_First.t4, iteB_dec]
    by_cases hlt : i < x4
    · rw [if_pos (by omega), withinR_nat (by omega), w64_id (n := (i : Int) + 1) (by omega) (by omega)]
      exact rp4 k a1 s x4 h4 hs m (i + 1) _ (by omega) (by omega)
    · rw [if_neg (by omega)]
def v1 (s : List UInt8) : Int := b0 s 0
def v2 (s : List UInt8) : Int := 64 * (b0 s 0 - 192) + b0 s 1 % 64
def v3 (s : List UInt8) : Int := 64 * (64 * (b0 s 0 - 224) + b0 s 1 % 64) + b0 s 2 % 64
def v4 (s : List UInt8) : Int := 64 * (64 * (64 * (b0 s 0 - 240) + b0 s 1 % 64) + b0 s 2 % 64) + b0 s 3 % 64
theorem rp5_pre (s : List UInt8) : w64 (byteAt s 0) = b0 s 0 := w64_byte s 0
theorem rp5_1 (a1 : ref01_First.T1) (s : List UInt8) (h : 1 ≤ s.length) : ref01_First.p5 (z + 10) a1 s 1 = if cond s 1 (v1 s) (b0 s 0) then some ((v1 s, 1), ()) else a1 s 2 := by
  have hb := b0_range s 0
  show ref01_First.t5 (ref01_First.p6 (z + 10) a1) (ref01_First.p7 (z + 10) a1 (z + 10)) s 1 = _
  simp only [ref01_First.t5, iteB_dec]
  rw [withinR_pos (by omega) (by decide), withinR_zero (by omega), if_pos trivial, withinR_zero (by omega), rp5_pre]
  show ref01_First.p6 (z + 10) a1 s (1 : Nat) (b0 s 0) (w64 (b0 s 0 - 0)) = _
  rw [w64_id (by omega) (by omega)]
  exact (rp6 (z + 10) a1 s 1 (v1 s) (b0 s 0 - 0) h (by omega)).trans (by simp)
theorem rp5_2 (a1 : ref01_First.T1) (s : List UInt8) (h : 2 ≤ s.length) : ref01_First.p5 (z + 10) a1 s 2 = if cond s 2 (v2 s) (b0 s 0 - 192) then some ((v2 s, 2), ()) else a1 s 3 := by
  have hb := b0_range s 0
  have hb1 := b0_range s 1
  show ref01_First.t5 (ref01_First.p6 (z + 10) a1) (ref01_First.p7 (z + 10) a1 (z + 10)) s 2 = _
  simp only [ref01_First.t5, iteB_dec]
  rw [withinR_pos (by omega) (by decide), withinR_zero (by omega), if_neg (by omega), rp5_pre]
  show ref01_First.p7 (z + 10) a1 (z + 10) s (2 : Nat) (w64 (b0 s 0 - 192)) (w64 (b0 s 0 - 192)) (1 : Nat) = _
  rw [w64_id (by omega) (by omega), rp7_step (z + 10) (z + 9) a1 s 2 _ _ 1 (by omega) (by omega) h (by omega) (by omega), rp7_end (z + 10) (z + 8)]
  exact rp6 (z + 10) a1 s 2 (v2 s) (b0 s 0 - 192) h (by omega)
theorem rp5_3 (a1 : ref01_First.T1) (s : List UInt8) (h : 3 ≤ s.length) : ref01_First.p5 (z + 10) a1 s 3 = if cond s 3 (v3 s) (b0 s 0 - 224) then some ((v3 s, 3), ()) else a1 s 4 := by
  have hb := b0_range s 0
  have hb1 := b0_range s 1
  have hb2 := b0_range s 2
  show ref01_First.t5 (ref01_First.p6 (z + 10) a1) (ref01_First.p7 (z + 10) a1 (z + 10)) s 3 = _
  simp only [ref01_First.t5, iteB_dec]
  rw [withinR_pos (by omega) (by decide), withinR_zero (by omega), if_neg (by omega), rp5_pre]
  show ref01_First.p7 (z + 10) a1 (z + 10) s (3 : Nat) (w64 (b0 s 0 - 224)) (w64 (b0 s 0 - 224)) (1 : Nat) = _
  rw [w64_id (by omega) (by omega), rp7_step (z + 10) (z + 9) a1 s 3 _ _ 1 (by omega) (by omega) h (by omega) (by omega), rp7_step (z + 10) (z + 8) a1 s 3 _ _ 2 (by omega) (by omega) h (by omega) (by omega), rp7_end (z + 10) (z + 7)]
  exact rp6 (z + 10) a1 s 3 (v3 s) (b0 s 0 - 224) h (by omega)
theorem rp5_4 (a1 : ref01_First.T1) (s : List UInt8) (h : 4 ≤ s.length) : ref01_First.p5 (z + 10) a1 s 4 = if cond s 4 (v4 s) (b0 s 0 - 240) then some ((v4 s, 4), ()) else a1 s 5 := by
  have hb := b0_range s 0
  have hb1 := b0_range s 1
  have hb2 := b0_range s 2
  have hb3 := b0_range s 3
  show ref01_First.t5 (ref01_First.p6 (z + 10) a1) (ref01_First.p7 (z + 10) a1 (z + 10)) s 4 = _
  simp only [ref01_First.t5, iteB_dec]
  rw [withinR_pos (by omega) (by decide), withinR_zero (by omega), if_neg (by omega), rp5_pre]
  show ref01_First.p7 (z + 10) a1 (z + 10) s (4 : Nat) (w64 (b0 s 0 - 240)) (w64 (b0 s 0 - 240)) (1 : Nat) = _
  rw [w64_id (by omega) (by omega), rp7_step (z + 10) (z + 9) a1 s 4 _ _ 1 (by omega) (by omega) h (by omega) (by omega), rp7_step (z + 10) (z + 8) a1 s 4 _ _ 2 (by omega) (by omega) h (by omega) (by omega), rp7_step (z + 10) (z + 7) a1 s 4 _ _ 3 (by omega) (by omega) h (by omega) (by omega), rp7_end (z + 10) (z + 6)]
  exact rp6 (z + 10) a1 s 4 (v4 s) (b0 s 0 - 240) h (by omega)

theorem rp1 (m : Nat) (s : List UInt8) (x4 : Nat) (h : 1 ≤ x4) : ref01_First.p1 (z + 10) (m + 1) s x4 = if x4 ≤ 4 ∧ x4 ≤ s.length then ref01_First.p5 (z + 10) (ref01_First.p1 (z + 10) m) s x4 else some (no, ()) := by
  show ref01_First.t1 (ref01_First.p2 (z + 10) (ref01_First.p1 (z + 10) m)) (ref01_First.p3 (z + 10)) s x4 = _
  simp only [ref01_First.t1, iteB_dec]
  by_cases h4 : x4 ≤ 4
  · rw [if_pos (by omega)]
    by_cases hs : x4 ≤ s.length
    · rw [if_pos (by omega), if_pos ⟨h4, hs⟩]
      exact rp4 (z + 10) (ref01_First.p1 (z + 10) m) s x4 (by omega) hs (z + 10) 0 0 (by omega) (by omega)
    · rw [if_neg (by omega), if_neg (by omega)]; rfl
  · rw [if_neg (by omega), if_neg (by omega)]; rfl

theorem cond_dec {s : List UInt8} {k : Nat} {n f : Int} (hk : k ≤ s.length) (h : cond s k n f) : dec s = (n, (k : Int)) := by
  obtain ⟨_, hs, he⟩ := h
  obtain ⟨m, rfl, h1, h2⟩ := sgn_nat hs
  rw [Int.toNat_natCast] at he
  have hl : (enc m).length = k := by rw [he, List.length_take]; omega
  have hsplit : s = enc m ++ s.drop k := by rw [he]; exact (List.take_append_drop k s).symm
  rw [hsplit, dec_enc m h1 h2, hl]
theorem b00 (a : UInt8) (l : List UInt8) : b0 (a :: l) 0 = (a.toNat : Int) := rfl
theorem b01 (a b : UInt8) (l : List UInt8) : b0 (a :: b :: l) 1 = (b.toNat : Int) := rfl
theorem b02 (a b c : UInt8) (l : List UInt8) : b0 (a :: b :: c :: l) 2 = (c.toNat : Int) := rfl
theorem b03 (a b c d : UInt8) (l : List UInt8) : b0 (a :: b :: c :: d :: l) 3 = (d.toNat : Int) := rfl

/-- The reference's first sign. -/
theorem rfirst_gen (s : List UInt8) : ref01_First.p1 (z + 10) (z + 10) s (1 : Nat) = some (dec s, ()) := by
  have hnot : ∀ {k : Nat} {n f : Int}, k ≤ s.length → 1 ≤ k → dec s = no → ¬ cond s k n f := fun hk h1 hd hc => by
    rw [cond_dec hk hc] at hd
    have := congrArg Prod.snd hd
    simp only [no] at this; omega
  rcases dec_spec s with hd | ⟨m, r, hd, hs, h1, h2⟩
  · rw [hd, rp1 (z + 9) s 1 (by omega)]
    by_cases c1 : 1 ≤ s.length
    · rw [if_pos ⟨by omega, c1⟩]
      rw [show ((1 : Nat) : Int) = 1 from rfl, rp5_1 _ s c1, if_neg (hnot c1 (by omega) hd)]
      rw [show (2 : Int) = ((2 : Nat) : Int) from rfl, rp1 (z + 8) s 2 (by omega)]
      by_cases c2 : 2 ≤ s.length
      · rw [if_pos ⟨by omega, c2⟩, show ((2 : Nat) : Int) = 2 from rfl, rp5_2 _ s c2, if_neg (hnot c2 (by omega) hd)]
        rw [show (3 : Int) = ((3 : Nat) : Int) from rfl, rp1 (z + 7) s 3 (by omega)]
        by_cases c3 : 3 ≤ s.length
        · rw [if_pos ⟨by omega, c3⟩, show ((3 : Nat) : Int) = 3 from rfl, rp5_3 _ s c3, if_neg (hnot c3 (by omega) hd)]
          rw [show (4 : Int) = ((4 : Nat) : Int) from rfl, rp1 (z + 6) s 4 (by omega)]
          by_cases c4 : 4 ≤ s.length
          · rw [if_pos ⟨by omega, c4⟩, show ((4 : Nat) : Int) = 4 from rfl, rp5_4 _ s c4, if_neg (hnot c4 (by omega) hd)]
            rw [show (5 : Int) = ((5 : Nat) : Int) from rfl, rp1 (z + 5) s 5 (by omega), if_neg (by omega)]
          · rw [if_neg (by omega)]
        · rw [if_neg (by omega)]
      · rw [if_neg (by omega)]
    · rw [if_neg (by omega)]
  · have hk := enc_len m
    have hlen : (enc m).length ≤ s.length := by rw [hs, List.length_append]; omega
    have hother : ∀ {k : Nat} {n f : Int}, k ≤ s.length → k ≠ (enc m).length → ¬ cond s k n f := fun hk hne hc => by
      rw [cond_dec hk hc] at hd
      have := congrArg Prod.snd hd
      simp only at this; omega
    have htake : s.take (enc m).length = enc m := by rw [hs]; simp
    have hsg := sgn_of m h1 h2
    rw [hd, rp1 (z + 9) s 1 (by omega), if_pos ⟨by omega, by omega⟩, show ((1 : Nat) : Int) = 1 from rfl, rp5_1 _ s (by omega)]
    by_cases d1 : m < 128
    · have e : enc m = [UInt8.ofNat m] := by simp [enc, d1]
      have ev : v1 s = m := by rw [hs, e]; show b0 (UInt8.ofNat m :: r) 0 = _; rw [b00, toNat_ofNat _ (by omega)]
      rw [e] at htake ⊢
      rw [ev, if_pos ⟨(b0_range s 0).1, hsg, by rw [Int.toNat_natCast, e]; exact htake.symm⟩]; rfl
    have el1 : (enc m).length ≠ 1 := by unfold enc; rw [if_neg d1]; split <;> (try split) <;> simp
    rw [if_neg (hother (by omega) (by omega)), show (2 : Int) = ((2 : Nat) : Int) from rfl, rp1 (z + 8) s 2 (by omega), if_pos ⟨by omega, by omega⟩, show ((2 : Nat) : Int) = 2 from rfl, rp5_2 _ s (by omega)]
    by_cases d2 : m < 2048
    · have e : enc m = [UInt8.ofNat (192 + m / 64), UInt8.ofNat (128 + m % 64)] := by simp [enc, d1, d2]
      have e0 : b0 s 0 = (192 + m / 64 : Nat) := by rw [hs, e]; show b0 (_ :: _) 0 = _; rw [b00, toNat_ofNat _ (by omega)]
      have e1 : b0 s 1 = (128 + m % 64 : Nat) := by rw [hs, e]; show b0 (_ :: _ :: r) 1 = _; rw [b01, toNat_ofNat _ (by omega)]
      have ev : v2 s = m := by unfold v2; rw [e0, e1]; omega
      rw [e] at htake ⊢
      rw [ev, if_pos ⟨by rw [e0]; omega, hsg, by rw [Int.toNat_natCast, e]; exact htake.symm⟩]; rfl
    have el2 : (enc m).length ≠ 2 := by unfold enc; rw [if_neg d1, if_neg d2]; split <;> simp
    rw [if_neg (hother (by omega) (by omega)), show (3 : Int) = ((3 : Nat) : Int) from rfl, rp1 (z + 7) s 3 (by omega), if_pos ⟨by omega, by omega⟩, show ((3 : Nat) : Int) = 3 from rfl, rp5_3 _ s (by omega)]
    by_cases d3 : m < 65536
    · have e : enc m = [UInt8.ofNat (224 + m / 4096), UInt8.ofNat (128 + m / 64 % 64), UInt8.ofNat (128 + m % 64)] := by simp [enc, d1, d2, d3]
      have e0 : b0 s 0 = (224 + m / 4096 : Nat) := by rw [hs, e]; show b0 (_ :: _) 0 = _; rw [b00, toNat_ofNat _ (by omega)]
      have e1 : b0 s 1 = (128 + m / 64 % 64 : Nat) := by rw [hs, e]; show b0 (_ :: _ :: _) 1 = _; rw [b01, toNat_ofNat _ (by omega)]
      have e2 : b0 s 2 = (128 + m % 64 : Nat) := by rw [hs, e]; show b0 (_ :: _ :: _ :: r) 2 = _; rw [b02, toNat_ofNat _ (by omega)]
      have ev : v3 s = m := by unfold v3; rw [e0, e1, e2]; omega
      rw [e] at htake ⊢
      rw [ev, if_pos ⟨by rw [e0]; omega, hsg, by rw [Int.toNat_natCast, e]; exact htake.symm⟩]; rfl
    have el3 : (enc m).length ≠ 3 := by unfold enc; rw [if_neg d1, if_neg d2, if_neg d3]; simp
    rw [if_neg (hother (by omega) (by omega)), show (4 : Int) = ((4 : Nat) : Int) from rfl, rp1 (z + 6) s 4 (by omega), if_pos ⟨by omega, by omega⟩, show ((4 : Nat) : Int) = 4 from rfl, rp5_4 _ s (by omega)]
    have e : enc m = [UInt8.ofNat (240 + m / 262144), UInt8.ofNat (128 + m / 4096 % 64), UInt8.ofNat (128 + m / 64 % 64), UInt8.ofNat (128 + m % 64)] := by simp [enc, d1, d2, d3]
    have e0 : b0 s 0 = (240 + m / 262144 : Nat) := by rw [hs, e]; show b0 (_ :: _) 0 = _; rw [b00, toNat_ofNat _ (by omega)]
    have e1 : b0 s 1 = (128 + m / 4096 % 64 : Nat) := by rw [hs, e]; show b0 (_ :: _ :: _) 1 = _; rw [b01, toNat_ofNat _ (by omega)]
    have e2 : b0 s 2 = (128 + m / 64 % 64 : Nat) := by rw [hs, e]; show b0 (_ :: _ :: _ :: _) 2 = _; rw [b02, toNat_ofNat _ (by omega)]
    have e3 : b0 s 3 = (128 + m % 64 : Nat) := by rw [hs, e]; show b0 (_ :: _ :: _ :: _ :: r) 3 = _; rw [b03, toNat_ofNat _ (by omega)]
    have ev : v4 s = m := by unfold v4; rw [e0, e1, e2, e3]; omega
    rw [e] at htake ⊢
    rw [ev, if_pos ⟨by rw [e0]; omega, hsg, by rw [Int.toNat_natCast, e]; exact htake.symm⟩]; rfl
theorem first_eq (s : List UInt8) : s_runes_First (s, ()) = some (dec s, ()) := by
  obtain ⟨z, hz⟩ := fuel10
  have e : s_runes_First (s, ()) = runes_First.t0 (runes_First.p1 fuel) s := rfl
  rw [e, hz]; exact first_gen s
theorem rfirst_eq (s : List UInt8) : s_ref01_First (s, ()) = some (dec s, ()) := by
  obtain ⟨z, hz⟩ := fuel10
  have e : s_ref01_First (s, ()) = ref01_First.p1 fuel fuel s (1 : Nat) := rfl
  rw [e, hz]; exact rfirst_gen s
def wh : Nat → List UInt8 → Bool
  | 0, _ => false
  | _ + 1, [] => true
  | n + 1, s => if (dec s).2 = 0 then false else wh n (s.drop (dec s).2.toNat)
theorem dec_len (s : List UInt8) : (dec s).2 = 0 ∨ ∃ k : Nat, (dec s).2 = k ∧ 1 ≤ k ∧ k ≤ s.length := by
  rcases dec_spec s with h | ⟨m, r, h, hs, _, _⟩
  · left; rw [h]; rfl
  · right
    have := enc_len m
    refine ⟨(enc m).length, by rw [h], this.1, by rw [hs, List.length_append]; omega⟩
theorem rnext_eq (s : List UInt8) : s_runes_reader_next (s, ()) = some (decide (0 < (dec s).2), (s.drop (dec s).2.toNat, ())) := by
  show runes_reader_next.t0 s = _
  simp only [runes_reader_next.t0, first_eq, bindR_val]
  rcases dec_len s with h | ⟨k, h, h1, h2⟩
  · rw [h, mustR_dec (by omega), mustR_dec (by omega)]; simp
  · rw [h, mustR_dec (by omega), mustR_dec (by omega)]; simp
theorem whole_p1 (k : Nat) : ∀ (m : Nat) (s : List UInt8), s.length < m → runes_Whole.p1 k m s = some (wh m s, ())
  | 0, s, h => by omega
  | m + 1, s, h => by
    show runes_Whole.t1 (runes_Whole.p1 k m) (runes_Whole.p2 k) s = _
    simp only [runes_Whole.t1, iteB_eq, rnext_eq, bindR_val]
    cases s with
    | nil => rfl
    | cons a r =>
      rw [if_pos (by simp)]
      simp only [wh]
      rcases dec_len (a :: r) with hd | ⟨j, hd, h1, h2⟩
      · rw [hd]; rfl
      · rw [hd, if_neg (by simp [notB_eq]; omega), if_neg (by omega)]
        refine whole_p1 k m _ ?_
        rw [List.length_drop]; simp only [List.length_cons, Int.toNat_natCast] at h h2 ⊢; omega
theorem rwhole_p1 (k : Nat) : ∀ (m : Nat) (s : List UInt8), s.length < m → ref01_Whole.p1 k m s = some (wh m s, ())
  | 0, s, h => by omega
  | m + 1, s, h => by
    show ref01_Whole.t1 (ref01_Whole.p1 k m) (ref01_Whole.p2 k) s = _
    simp only [ref01_Whole.t1, iteB_dec, rfirst_eq, bindR_val]
    cases s with
    | nil => rfl
    | cons a r =>
      rw [if_pos (by simp only [List.length_cons]; omega)]
      simp only [wh]
      rcases dec_len (a :: r) with hd | ⟨j, hd, h1, h2⟩
      · rw [hd]; rfl
      · rw [hd, if_neg (by omega), if_neg (by omega), mustR_dec (by omega), mustR_dec (by omega), List.take_length]
        refine rwhole_p1 k m _ ?_
        rw [List.length_drop]; simp only [List.length_cons, Int.toNat_natCast] at h h2 ⊢; omega
theorem whole_eq (s : List UInt8) (h : s.length < 100000000000) : s_runes_Whole (s, ()) = some (wh fuel s, ()) := whole_p1 fuel fuel s (fuel_gt _ (by omega))
theorem rwhole_eq (s : List UInt8) (h : s.length < 100000000000) : s_ref01_Whole (s, ()) = some (wh fuel s, ()) := rwhole_p1 fuel fuel s (fuel_gt _ (by omega))
def edg (s : List UInt8) (i : Int) : Bool := decide (i = (s.length : Int)) || (decide (0 ≤ i) && (decide (i < (s.length : Int)) && !isF (s.getD i.toNat 0)))
theorem edg_at (s : List UInt8) (i : Nat) (h : i < s.length) : edg s (i : Int) = !isF (s.getD i 0) := by
  simp only [edg, Int.toNat_natCast]
  rw [decide_eq_false (show ¬ (i : Int) = s.length by omega), decide_eq_true (show 0 ≤ (i : Int) by omega), decide_eq_true (show (i : Int) < s.length by omega)]; simp
/-- The next edge. -/
theorem edg_len (s : List UInt8) : edg s (s.length : Int) = true := by simp [edg]
def Sg (m : Nat) : Prop := m < 1114112 ∧ (m < 55296 ∨ 57343 < m)
def W (ms : List Nat) : List UInt8 := (ms.map enc).flatten
theorem W_cons (m : Nat) (ms : List Nat) : W (m :: ms) = enc m ++ W ms := rfl
theorem W_app (a b : List Nat) : W (a ++ b) = W a ++ W b := by simp [W]
theorem wh_W : ∀ (ms : List Nat) (n : Nat), (∀ m ∈ ms, Sg m) → (W ms).length < n → wh n (W ms) = true
  | [], n + 1, _, _ => rfl
  | [], 0, _, h => by simp [W] at h
  | m :: ms, 0, _, h => by omega
  | m :: ms, n + 1, hm, h => by
    have hl := enc_len m
    have hg := hm m (List.mem_cons_self)
    have hd : dec (W (m :: ms)) = ((m : Int), ((enc m).length : Int)) := by rw [W_cons]; exact dec_enc m hg.1 hg.2 _
    have hlen : (W (m :: ms)).length = (enc m).length + (W ms).length := by rw [W_cons, List.length_append]
    have hdrop : (W (m :: ms)).drop (enc m).length = W ms := by rw [W_cons]; simp
    have hne : ∃ a r, W (m :: ms) = a :: r := by
      cases hW : W (m :: ms) with
      | nil => rw [hW] at hlen; simp at hlen; omega
      | cons a r => exact ⟨a, r, rfl⟩
    obtain ⟨a, r, hW⟩ := hne
    rw [hW] at hd hdrop ⊢
    simp only [wh, hd, Int.toNat_natCast, hdrop]
    rw [if_neg (by omega)]
    exact wh_W ms n (fun x hx => hm x (List.mem_cons_of_mem _ hx)) (by omega)
theorem not_isF_lo (n : Nat) (h : n < 128) : isF (UInt8.ofNat n) = false := by
  unfold isF; rw [toNat_ofNat _ (by omega)]; simp; omega
theorem not_isF_hi (n : Nat) (h : 192 ≤ n) (h2 : n < 256) : isF (UInt8.ofNat n) = false := by
  unfold isF; rw [toNat_ofNat _ (by omega)]; simp; omega
/-- A sign's bytes: the first one is no follower, the others are. -/
theorem enc_shape (m : Nat) (h : Sg m) : ∃ a r, enc m = a :: r ∧ isF a = false ∧ ∀ x ∈ r, isF x = true := by
  obtain ⟨h1, h2⟩ := h
  unfold enc
  have f64 : ∀ n, isF (UInt8.ofNat (128 + n % 64)) = true := fun n => isF_ofNat _ (Nat.mod_lt n (by omega))
  by_cases d1 : m < 128
  · rw [if_pos d1]; exact ⟨_, [], rfl, not_isF_lo m d1, by simp⟩
  rw [if_neg d1]
  by_cases d2 : m < 2048
  · rw [if_pos d2]; exact ⟨_, _, rfl, not_isF_hi _ (by omega) (by omega), by
      intro x hx
      simp only [List.mem_cons, List.not_mem_nil, or_false] at hx
      rcases hx with rfl <;> exact f64 _⟩
  rw [if_neg d2]
  by_cases d3 : m < 65536
  · rw [if_pos d3]; exact ⟨_, _, rfl, not_isF_hi _ (by omega) (by omega), by
      intro x hx
      simp only [List.mem_cons, List.not_mem_nil, or_false] at hx
      rcases hx with rfl | rfl <;> exact f64 _⟩
  rw [if_neg d3]; exact ⟨_, _, rfl, not_isF_hi _ (by omega) (by omega), by
      intro x hx
      simp only [List.mem_cons, List.not_mem_nil, or_false] at hx
      rcases hx with rfl | rfl | rfl <;> exact f64 _⟩
theorem edge_W : ∀ (ms : List Nat) (a : Nat), (∀ m ∈ ms, Sg m) → edg (W ms) (a : Int) = true → ∃ m1 m2, ms = m1 ++ m2 ∧ a = (W m1).length
  | [], a, _, h => by
    refine ⟨[], [], rfl, ?_⟩
    simp only [edg, W, List.map_nil, List.flatten_nil, List.length_nil, Bool.or_eq_true, Bool.and_eq_true, decide_eq_true_eq] at h ⊢
    omega
  | m :: ms, a, hm, h => by
    obtain ⟨x, r, e, h1, h2⟩ := enc_shape m (hm m List.mem_cons_self)
    by_cases h0 : a = 0
    · exact ⟨[], m :: ms, rfl, by rw [h0]; rfl⟩
    have hlen : (W (m :: ms)).length = (enc m).length + (W ms).length := by rw [W_cons, List.length_append]
    have hge : (enc m).length ≤ a := by
      rcases Nat.lt_or_ge a (enc m).length with hlt | hge
      · exfalso
        rw [edg_at _ a (by omega)] at h
        have hget : (W (m :: ms)).getD a 0 = r.getD (a - 1) 0 := by
          rw [W_cons, e]
          obtain ⟨b, rfl⟩ : ∃ b, a = b + 1 := ⟨a - 1, by omega⟩
          rw [List.cons_append, List.getD_cons_succ, Nat.add_sub_cancel]
          rw [e, List.length_cons] at hlt
          simp only [List.getD_eq_getElem?_getD]
          rw [List.getElem?_append_left (by omega)]
        rw [hget] at h
        have hmem : r.getD (a - 1) 0 ∈ r := by
          rw [e, List.length_cons] at hlt
          have hb : a - 1 < r.length := by omega
          have : r.getD (a - 1) 0 = r[a - 1] := by simp [hb]
          rw [this]; exact List.getElem_mem hb
        rw [h2 _ hmem] at h; cases h
      · exact hge
    have h' : edg (W ms) ((a - (enc m).length : Nat) : Int) = true := by
      by_cases hz : a < (W (m :: ms)).length
      · rw [edg_at _ a hz] at h
        rw [edg_at _ _ (by omega)]
        have : (W (m :: ms)).getD a 0 = (W ms).getD (a - (enc m).length) 0 := by
          rw [W_cons]; simp only [List.getD_eq_getElem?_getD]; rw [List.getElem?_append_right hge]
        rw [← this]; exact h
      · have : a = (W (m :: ms)).length := by
          simp only [edg, Bool.or_eq_true, Bool.and_eq_true, decide_eq_true_eq] at h
          omega
        have : a - (enc m).length = (W ms).length := by omega
        rw [this]; exact edg_len _
    obtain ⟨m1, m2, e1, e2⟩ := edge_W ms _ (fun x hx => hm x (List.mem_cons_of_mem _ hx)) h'
    exact ⟨m :: m1, m2, by rw [e1]; rfl, by rw [W_cons, List.length_append]; omega⟩
theorem piece_W (ms : List Nat) (hm : ∀ m ∈ ms, Sg m) (a b : Nat) (hab : a ≤ b) (ha : edg (W ms) (a : Int) = true) (hb : edg (W ms) (b : Int) = true) :
    ∃ ps, (∀ m ∈ ps, Sg m) ∧ (W ms |>.take b).drop a = W ps ∧ b ≤ (W ms).length := by
  obtain ⟨m1, m2, e1, e2⟩ := edge_W ms b hm hb
  have hbl : b ≤ (W ms).length := by rw [e1, W_app, List.length_append]; omega
  have ht : (W ms).take b = W m1 := by rw [e1, W_app, e2]; simp
  have hm1 : ∀ m ∈ m1, Sg m := fun x hx => hm x (by rw [e1]; exact List.mem_append_left _ hx)
  rw [ht]
  have ha' : edg (W m1) (a : Int) = true := by
    by_cases h : a = b
    · rw [h, e2]; exact edg_len _
    · rw [edg_at _ a (by omega)] at ha
      rw [edg_at _ a (by omega)]
      have : (W ms).getD a 0 = (W m1).getD a 0 := by
        rw [e1, W_app]; simp only [List.getD_eq_getElem?_getD]; rw [List.getElem?_append_left (by omega)]
      rw [← this]; exact ha
  obtain ⟨p1, p2, f1, f2⟩ := edge_W m1 a hm1 ha'
  exact ⟨p2, fun x hx => hm1 x (by rw [f1]; exact List.mem_append_right _ hx), by rw [f1, W_app, f2]; simp, hbl⟩

end
end Go.Proofs.Ytdifekkamjoepaa.Vm.Rp
namespace Go.Proofs.Ytdifekkamjoepaa.Vm.Rp
open Go Go.Proofs.Ytdifekkamjoepaa.Vm
set_option linter.unusedVariables false

abbrev EdI := Int × (Int × List UInt8)
abbrev Ed := Nat × (Nat × List UInt8)
def cE (o : Ed) : EdI := ((o.1 : Int), ((o.2.1 : Int), o.2.2))
def e0 : EdI := ((0 : Int), ((0 : Int), ([] : List UInt8)))

theorem redge_edg (s : List UInt8) (i : Int) : s_ref01_Edge (s, (i, ())) = some (edg s i, ()) := by
  by_cases h : i < 0 ∨ s.length < i
  · rw [rEdge_bad s i h]
    have : edg s i = false := by
      unfold edg
      rw [decide_eq_false (by omega)]
      by_cases h0 : 0 ≤ i
      · rw [decide_eq_false (p := i < (s.length : Int)) (by omega)]; simp
      · rw [decide_eq_false h0]; simp
    rw [this]
  · obtain ⟨j, rfl⟩ : ∃ j : Nat, i = j := ⟨i.toNat, by omega⟩
    rw [rEdge_eq s j (by omega)]
    congr 2
    unfold edg
    by_cases c : j = s.length
    · rw [decide_eq_true (.inl c), decide_eq_true (by omega)]; rfl
    · rw [decide_eq_false (p := (j : Int) = (s.length : Int)) (by omega), decide_eq_true (p := (0 : Int) ≤ j) (by omega), decide_eq_true (p := (j : Int) < (s.length : Int)) (by omega), Int.toNat_natCast]
      cases hF : isF (s.getD j 0) with
      | true => rw [decide_eq_false (by simp [c])]; rfl
      | false => rw [decide_eq_true (.inr rfl)]; rfl
theorem pedge_edg {s : List UInt8} {o : Option N0} (H : Ro s o) (hs : s.length < 1000000) (i : Int) : s_place_Edge (o, (i, ())) = some (edg s i, ()) := by
  obtain ⟨b, h1, h2⟩ := PEdge_eq H hs i
  rw [redge_edg] at h2
  cases h2
  exact h1

def chk (s : List UInt8) : Int → Int → List EdI → Int
  | e, n, [] => if 4000 < n then 4 else 0
  | e, n, o :: l =>
    if o.1 < e ∨ (s.length : Int) < o.1 ∨ o.2.1 < 0 ∨ (s.length : Int) - o.1 < o.2.1 then 3
    else if edg s o.1 = true ∧ edg s (o.1 + o.2.1) = true ∧ wh fuel o.2.2 = true then chk s (o.1 + o.2.1) (n + o.2.2.length - o.2.1) l
    else 2
theorem edrop (l : List EdI) (i : Nat) (h : i < l.length) : l.drop i = l.getD i e0 :: l.drop (i + 1) := by
  rw [List.drop_eq_getElem_cons h]; congr 1; simp [h]
def Small (l : List EdI) : Prop := l.length ≤ 100 ∧ ∀ o ∈ l, o.2.2.length ≤ 10000
theorem Small.get {l : List EdI} (H : Small l) {i : Nat} (h : i < l.length) : (l.getD i e0).2.2.length ≤ 10000 := by
  apply H.2
  rw [List.getD_eq_getElem?_getD, List.getElem?_eq_getElem h]; exact List.getElem_mem h
theorem rcheck_p1 (k : Nat) (s : List UInt8) (hs : s.length ≤ 10000) (l : List EdI) (H : Small l) : ∀ (m i : Nat) (e n : Int), l.length < m + i → i ≤ l.length → 0 ≤ e → -20000 * (i : Int) ≤ n → n ≤ 10000 + 10000 * (i : Int) →
    ref04_Check.p1 k m s l e n (i : Int) = some (chk s e n (l.drop i), ())
  | 0, i, e, n, h, hi, _, _, _ => by omega
  | m + 1, i, e, n, h, hi, he, h1, h2 => by
    have step : ref04_Check.p1 k (m + 1) s l e n (i : Int) = ref04_Check.t1 (ref04_Check.p2 k (ref04_Check.p1 k m)) (ref04_Check.p3 k) s l e n (i : Int) := rfl
    rw [step]
    have hl := H.1
    simp only [ref04_Check.t1, iteB_dec]
    by_cases c : i < l.length
    · rw [if_pos (by omega), withinR_nat c, edrop l i c]
      have hS := H.get c
      change (if (l.getD i e0).1 < e then _ else _) = _
      show (if (l.getD i e0).1 < e then ref04_Check.p2 k (ref04_Check.p1 k m) s l n (i : Int) true (l.getD i e0) else if (s.length : Int) < (l.getD i e0).1 then ref04_Check.p2 k (ref04_Check.p1 k m) s l n (i : Int) true (l.getD i e0) else if (l.getD i e0).2.1 < 0 then ref04_Check.p2 k (ref04_Check.p1 k m) s l n (i : Int) true (l.getD i e0) else ref04_Check.p2 k (ref04_Check.p1 k m) s l n (i : Int) (decide ((w64 ((s.length : Int) - (l.getD i e0).1)) < (l.getD i e0).2.1)) (l.getD i e0)) = _
      generalize l.getD i e0 = o at *
      simp only [chk]
      have bad : ref04_Check.p2 k (ref04_Check.p1 k m) s l n (i : Int) true o = some (3, ()) := rfl
      by_cases c3 : o.1 < e ∨ (s.length : Int) < o.1 ∨ o.2.1 < 0 ∨ (s.length : Int) - o.1 < o.2.1
      · rw [if_pos c3]
        by_cases d1 : o.1 < e
        · rw [if_pos d1, bad]
        rw [if_neg d1]
        by_cases d2 : (s.length : Int) < o.1
        · rw [if_pos d2, bad]
        rw [if_neg d2]
        by_cases d3 : o.2.1 < 0
        · rw [if_pos d3, bad]
        rw [if_neg d3, w64_id (by omega) (by omega), decide_eq_true (by omega), bad]
      · rw [if_neg c3, if_neg (by omega), if_neg (by omega), if_neg (by omega), w64_id (by omega) (by omega), decide_eq_false (by omega)]
        have ok : ref04_Check.p2 k (ref04_Check.p1 k m) s l n (i : Int) false o = ref04_Check.t4 (ref04_Check.p5 k (ref04_Check.p1 k m)) s l n (i : Int) o := rfl
        rw [ok]
        simp only [ref04_Check.t4, redge_edg, bindR_val, rwhole_eq o.2.2 (by omega)]
        rw [w64_id (n := o.1 + o.2.1) (by omega) (by omega)]
        have bad2 : ref04_Check.p5 k (ref04_Check.p1 k m) s l n (i : Int) true o = some (2, ()) := rfl
        by_cases c2 : edg s o.1 = true ∧ edg s (o.1 + o.2.1) = true ∧ wh fuel o.2.2 = true
        · rw [if_pos c2, c2.1, c2.2.1, c2.2.2]
          simp only [notB_true, iteB_false]
          show ref04_Check.p1 k m s l (w64 (o.1 + o.2.1)) (w64 ((w64 (n + (o.2.2.length : Int))) - o.2.1)) (w64 ((i : Int) + 1)) = _
          rw [w64_id (n := o.1 + o.2.1) (by omega) (by omega), w64_id (n := n + (o.2.2.length : Int)) (by omega) (by omega), w64_id (n := n + (o.2.2.length : Int) - o.2.1) (by omega) (by omega), w64_id (n := (i : Int) + 1) (by omega) (by omega)]
          exact rcheck_p1 k s hs l H m (i + 1) _ _ (by omega) (by omega) (by omega) (by omega) (by omega)
        · rw [if_neg c2]
          cases h1 : edg s o.1 with
          | false => simp only [notB_false, iteB_true]; exact bad2
          | true =>
            simp only [notB_true, iteB_false]
            cases h2 : edg s (o.1 + o.2.1) with
            | false => simp only [notB_false, iteB_true]; exact bad2
            | true =>
              simp only [notB_true, iteB_false]
              cases h3 : wh fuel o.2.2 with
              | false => exact bad2
              | true => exact absurd ⟨h1, h2, h3⟩ c2
    · rw [if_neg (by omega), List.drop_of_length_le (by omega)]
      show ref04_Check.t3 n = _
      simp only [ref04_Check.t3, iteB_dec, chk]
      split <;> rfl
theorem rcheck_eq (s : List UInt8) (hs : s.length ≤ 10000) (l : List EdI) (H : Small l) : s_ref04_Check (s, (l, ())) = some (chk s 0 s.length l, ()) :=
  rcheck_p1 fuel s hs l H fuel 0 0 s.length (by have := fuel_gt l.length (by have := H.1; omega); omega) (by omega) (by omega) (by omega) (by omega)
theorem put_eq (g e : Int) (acc : List EdI) (o : EdI) (ha : acc.length ≤ 100) (h1 : -100000000 ≤ g) (h2 : g ≤ 100000000) (h3 : o.2.2.length ≤ 10000) (h4 : -100000000 ≤ o.2.1) (h5 : o.2.1 ≤ 100000000) (h6 : -100000000 ≤ o.1) (h7 : o.1 ≤ 100000000) :
    s_edit_edits_put (((g, e), acc), (o, ())) = some ((), ((((g + ((o.2.2.length : Int) - o.2.1), o.1 + o.2.1), acc ++ [o])), ())) := by
  have st : s_edit_edits_put (((g, e), acc), (o, ())) = edit_edits_put.t0 ((g, e), acc) o := rfl
  rw [st]
  simp only [edit_edits_put.t0, room]
  rw [mustR_dec (by simp; omega), w64_id (n := (o.2.2.length : Int) - o.2.1) (by omega) (by omega), w64_id (by omega) (by omega), w64_id (by omega) (by omega)]
theorem spans_eq (x : (Int × Int) × List EdI) (o : EdI) (n : Int) (h0 : 0 ≤ n) (h1 : n ≤ 1000000) (he : 0 ≤ x.1.2) : s_edit_edits_spans (x, (o, (n, ()))) = some (!decide (o.1 < x.1.2 ∨ n < o.1 ∨ o.2.1 < 0 ∨ n - o.1 < o.2.1), (x, ())) := by
  have st : s_edit_edits_spans (x, (o, (n, ()))) = edit_edits_spans.t0 x o n := rfl
  rw [st]
  simp only [edit_edits_spans.t0, iteB_dec]
  by_cases c1 : x.1.2 ≤ o.1
  · rw [if_pos c1]
    by_cases c2 : o.1 ≤ n
    · rw [if_pos c2]
      by_cases c3 : 0 ≤ o.2.1
      · rw [if_pos c3, w64_id (by omega) (by omega)]
        by_cases c4 : o.2.1 ≤ n - o.1
        · rw [decide_eq_true c4, decide_eq_false (by omega)]; rfl
        · rw [decide_eq_false c4, decide_eq_true (by omega)]; rfl
      · rw [if_neg c3, decide_eq_true (by omega)]; rfl
    · rw [if_neg c2, decide_eq_true (by omega)]; rfl
  · rw [if_neg c1, decide_eq_true (by omega)]; rfl
theorem check_p1 (k : Nat) {s : List UInt8} {r : Option N0} (R : Ro s r) (hs : s.length ≤ 10000) (l : List EdI) (H : Small l) : ∀ (m i : Nat) (e g : Int) (acc : List EdI), l.length < m + i → i ≤ l.length → acc.length = i → 0 ≤ e → -20000 * (i : Int) ≤ g → g ≤ 10000 * (i : Int) →
    edit_Check.p1 k m l (l.length : Int) (i : Int) r ((g, e), acc) = some (chk s e ((s.length : Int) + g) (l.drop i), ())
  | 0, i, e, g, acc, h, hi, _, _, _, _ => by omega
  | m + 1, i, e, g, acc, h, hi, ha, he, h1, h2 => by
    have step : edit_Check.p1 k (m + 1) l (l.length : Int) (i : Int) r ((g, e), acc) = edit_Check.t1 (edit_Check.p2 k (edit_Check.p1 k m)) (edit_Check.p3 k) l (l.length : Int) (i : Int) r ((g, e), acc) := rfl
    rw [step]
    have hl := H.1
    simp only [edit_Check.t1, iteB_dec, len_eq R (by omega), bindR_val]
    by_cases c : i < l.length
    · rw [if_pos (by omega), withinR_nat c, edrop l i c]
      have hS := H.get c
      show bindR (s_edit_edits_spans (((g, e), acc), (l.getD i e0, ((s.length : Int), ())))) (fun r3 => iteB (notB r3.1) (some ((3 : Int), ())) (bindR (s_place_Edge (r, ((l.getD i e0).1, ()))) fun r4 => (iteB (notB r4.1) (edit_Check.p2 k (edit_Check.p1 k m) l (l.length : Int) (i : Int) true r (l.getD i e0) r3.2.1) (bindR (s_place_Edge (r, ((w64 ((l.getD i e0).1 + (l.getD i e0).2.1)), ()))) fun r5 => (iteB (notB r5.1) (edit_Check.p2 k (edit_Check.p1 k m) l (l.length : Int) (i : Int) true r (l.getD i e0) r3.2.1) (bindR (s_runes_Whole ((l.getD i e0).2.2, ())) fun r6 => (edit_Check.p2 k (edit_Check.p1 k m) l (l.length : Int) (i : Int) (notB r6.1) r (l.getD i e0) r3.2.1))))))) = _
      generalize l.getD i e0 = o at *
      rw [spans_eq _ o _ (by omega) (by omega) he, bindR_val]
      simp only [chk]
      by_cases c3 : o.1 < e ∨ (s.length : Int) < o.1 ∨ o.2.1 < 0 ∨ (s.length : Int) - o.1 < o.2.1
      · rw [if_pos c3, decide_eq_true c3]; rfl
      · rw [if_neg c3, decide_eq_false c3]
        simp only [Bool.not_false, notB_true, iteB_false, pedge_edg R (by omega), bindR_val, whole_eq o.2.2 (by omega)]
        rw [w64_id (n := o.1 + o.2.1) (by omega) (by omega)]
        have bad2 : edit_Check.p2 k (edit_Check.p1 k m) l (l.length : Int) (i : Int) true r o ((g, e), acc) = some (2, ()) := rfl
        by_cases c2 : edg s o.1 = true ∧ edg s (o.1 + o.2.1) = true ∧ wh fuel o.2.2 = true
        · rw [if_pos c2, c2.1, c2.2.1, c2.2.2]
          simp only [notB_true, iteB_false]
          show bindR (s_edit_edits_put (((g, e), acc), (o, ()))) (fun r7 => edit_Check.p1 k m l (l.length : Int) (w64 ((i : Int) + 1)) r r7.2.1) = _
          rw [put_eq g e acc o (by omega) (by omega) (by omega) hS (by omega) (by omega) (by omega) (by omega), bindR_val, w64_id (n := (i : Int) + 1) (by omega) (by omega)]
          have := check_p1 k R hs l H m (i + 1) (o.1 + o.2.1) (g + ((o.2.2.length : Int) - o.2.1)) (acc ++ [o]) (by omega) (by omega) (by simp [ha]) (by omega) (by omega) (by omega)
          refine Eq.trans this ?_
          rw [show (s.length : Int) + (g + ((o.2.2.length : Int) - o.2.1)) = (s.length : Int) + g + (o.2.2.length : Int) - o.2.1 by omega]
        · rw [if_neg c2]
          cases h1 : edg s o.1 with
          | false => simp only [notB_false, iteB_true]; exact bad2
          | true =>
            simp only [notB_true, iteB_false]
            cases h2 : edg s (o.1 + o.2.1) with
            | false => simp only [notB_false, iteB_true]; exact bad2
            | true =>
              simp only [notB_true, iteB_false]
              cases h3 : wh fuel o.2.2 with
              | false => exact bad2
              | true => exact absurd ⟨h1, h2, h3⟩ c2
    · rw [if_neg (by omega), List.drop_of_length_le (by omega)]
      show edit_Check.t3 r ((g, e), acc) = _
      simp only [edit_Check.t3, iteB_dec, len_eq R (by omega), bindR_val, chk]
      rw [w64_id (by omega) (by omega)]
      split <;> rfl
theorem check_eq {s : List UInt8} {r : Option N0} (R : Ro s r) (hs : s.length ≤ 10000) (l : List EdI) (H : Small l) : s_edit_Check (r, (l, ())) = some (chk s 0 s.length l, ()) := by
  have := check_p1 fuel R hs l H fuel 0 0 0 [] (by have := fuel_gt l.length (by have := H.1; omega); omega) (by omega) rfl (by omega) (by omega) (by omega)
  rw [Int.add_zero] at this
  exact this

def grow : List Ed → Int
  | [] => 0
  | o :: l => (o.2.2.length : Int) - o.2.1 + grow l
def Num (n : Nat) : Nat → List Ed → Prop
  | e, [] => True
  | e, o :: l => e ≤ o.1 ∧ o.1 + o.2.1 ≤ n ∧ Num n (o.1 + o.2.1) l
def Edgs (s : List UInt8) (l : List Ed) : Prop := ∀ o ∈ l, edg s o.1 = true ∧ edg s ((o.1 + o.2.1 : Nat) : Int) = true ∧ wh fuel o.2.2 = true
theorem chk_of (s : List UInt8) : ∀ (l : List Ed) (e : Nat) (n : Int), Num s.length e l → Edgs s l → n + grow l ≤ 4000 → chk s e n (l.map cE) = 0
  | [], e, n, _, _, h => by
    simp only [grow] at h
    simp only [List.map_nil, chk]
    rw [if_neg (by omega)]
  | o :: l, e, n, hN, hE, h => by
    obtain ⟨h1, h2, h3⟩ := hN
    obtain ⟨a, d, S⟩ := o
    have h1 : e ≤ a := h1
    have h2 : a + d ≤ s.length := h2
    obtain ⟨k1, k2, k3⟩ := hE _ (List.mem_cons_self ..)
    simp only [grow] at h
    simp only [List.map_cons, chk, cE]
    rw [if_neg (by omega), if_pos ⟨k1, k2, k3⟩]
    exact chk_of s l (a + d) _ h3 (fun x hx => hE x (List.mem_cons_of_mem _ hx)) (by omega)

def app (s : List UInt8) : List Ed → List UInt8
  | [] => s
  | o :: l => (app s l).take o.1 ++ o.2.2 ++ (app s l).drop (o.1 + o.2.1)
def xA (n : Nat) : List Ed → Nat
  | [] => n
  | o :: _ => o.1
def pf (s : List UInt8) : List Ed → List UInt8
  | [] => []
  | o :: l => o.2.2 ++ ((s.take (xA s.length l)).drop (o.1 + o.2.1) ++ pf s l)
theorem Num.xA {n e : Nat} {l : List Ed} (H : Num n e l) (he : e ≤ n) : e ≤ Rp.xA n l ∧ Rp.xA n l ≤ n := by
  cases l with
  | nil => exact ⟨he, Nat.le_refl _⟩
  | cons o l => exact ⟨H.1, by have := H.2.1; show o.1 ≤ n; omega⟩
theorem app_pf (s : List UInt8) : ∀ (l : List Ed) (e : Nat), Num s.length e l → app s l = s.take (xA s.length l) ++ pf s l
  | [], e, _ => by simp [app, xA, pf]
  | o :: l, e, H => by
    obtain ⟨h1, h2, h3⟩ := H
    obtain ⟨x1, x2⟩ := h3.xA h2
    have ih := app_pf s l _ h3
    have l1 : (s.take (xA s.length l)).length = xA s.length l := by rw [List.length_take]; omega
    show (app s l).take o.1 ++ o.2.2 ++ (app s l).drop (o.1 + o.2.1) = s.take o.1 ++ (o.2.2 ++ ((s.take (xA s.length l)).drop (o.1 + o.2.1) ++ pf s l))
    rw [ih, List.take_append_of_le_length (by omega), List.take_take, Nat.min_eq_left (by omega), List.drop_append_of_le_length (by omega), List.append_assoc]
theorem pf_len (s : List UInt8) : ∀ (l : List Ed) (e : Nat), Num s.length e l → ((pf s l).length : Int) + (xA s.length l : Int) = s.length + grow l
  | [], e, _ => by simp [pf, xA, grow]
  | o :: l, e, H => by
    obtain ⟨h1, h2, h3⟩ := H
    obtain ⟨x1, x2⟩ := h3.xA h2
    have ih := pf_len s l _ h3
    have ep : pf s (o :: l) = o.2.2 ++ ((s.take (xA s.length l)).drop (o.1 + o.2.1) ++ pf s l) := rfl
    have ex : xA s.length (o :: l) = o.1 := rfl
    have eg : grow (o :: l) = (o.2.2.length : Int) - o.2.1 + grow l := rfl
    rw [ep, ex, eg, List.length_append, List.length_append, List.length_drop, List.length_take]
    omega
theorem applen (s : List UInt8) (l : List Ed) (e : Nat) (H : Num s.length e l) (he : e ≤ s.length) : ((app s l).length : Int) = s.length + grow l := by
  have := pf_len s l e H
  obtain ⟨x1, x2⟩ := H.xA he
  rw [app_pf s l e H, List.length_append, List.length_take]; omega
theorem Num.drop {n : Nat} : ∀ {l : List Ed} {e : Nat} (i : Nat), Num n e l → e ≤ n → ∃ e', e' ≤ n ∧ Num n e' (l.drop i)
  | l, e, 0, H, he => ⟨e, he, H⟩
  | [], e, i + 1, H, he => ⟨e, he, H⟩
  | o :: l, e, i + 1, H, he => Num.drop i H.2.2 H.2.1
theorem pf_drop (s : List UInt8) : ∀ (l : List Ed) (i : Nat), (pf s (l.drop i)).length ≤ (pf s l).length
  | l, 0 => Nat.le_refl _
  | [], i + 1 => Nat.le_refl _
  | o :: l, i + 1 => by
    have := pf_drop s l i
    simp only [List.drop_succ_cons, pf, List.length_append]; omega
end Go.Proofs.Ytdifekkamjoepaa.Vm.Rp
namespace Go.Proofs.Ytdifekkamjoepaa.Vm.Rp
open Go Go.Proofs.Ytdifekkamjoepaa.Vm
set_option linter.unusedVariables false

def SmallN (l : List Ed) : Prop := l.length ≤ 100 ∧ ∀ o ∈ l, o.2.2.length ≤ 10000
theorem SmallN.map {l : List Ed} (H : SmallN l) : Small (l.map cE) := ⟨by simpa using H.1, fun o ho => by
  obtain ⟨x, hx, rfl⟩ := List.mem_map.1 ho
  exact H.2 x hx⟩
theorem SmallN.cons {o : Ed} {l : List Ed} (H : SmallN (o :: l)) : o.2.2.length ≤ 10000 ∧ SmallN l := ⟨H.2 o (List.mem_cons_self ..), by have := H.1; simp at this; omega, fun x hx => H.2 x (List.mem_cons_of_mem _ hx)⟩
theorem SmallN.drop {l : List Ed} (H : SmallN l) (i : Nat) : SmallN (l.drop i) := ⟨by rw [List.length_drop]; have := H.1; omega, fun o ho => H.2 o (List.mem_of_mem_drop ho)⟩
theorem SmallN.take {l : List Ed} (H : SmallN l) (i : Nat) : SmallN (l.take i) := ⟨by rw [List.length_take]; have := H.1; omega, fun o ho => H.2 o (List.mem_of_mem_take ho)⟩
theorem grow_le : ∀ (l : List Ed), SmallN l → grow l ≤ 10000 * (l.length : Int)
  | [], _ => by simp [grow]
  | o :: l, H => by
    have := grow_le l H.cons.2
    have := H.cons.1
    simp only [grow, List.length_cons]; omega
theorem getE (l : List Ed) (i : Nat) (h : i < l.length) : ∃ o, l.drop i = o :: l.drop (i + 1) ∧ List.getD (l.map cE) i ((0 : Int), ((0 : Int), ([] : List UInt8))) = cE o := by
  refine ⟨l[i], List.drop_eq_getElem_cons h, ?_⟩
  rw [List.getD_eq_getElem?_getD, List.getElem?_map, List.getElem?_eq_getElem h]; rfl

def Pt (x7 : List (Option N0)) (ts : List (List UInt8)) : Prop := x7.length = ts.length ∧ ∀ i, i < x7.length → Ro (ts.getD i []) (x7.getD i none) ∧ (ts.getD i []).length < 100000000
theorem Pt.cons {x7 : List (Option N0)} {ts : List (List UInt8)} (H : Pt x7 ts) {x : Option N0} {t : List UInt8} (R : Ro t x) (ht : t.length < 100000000) : Pt (x :: x7) (t :: ts) := ⟨by simp [H.1], fun i hi => by
  cases i with
  | zero => exact ⟨R, ht⟩
  | succ i =>
    simp only [List.getD_cons_succ]
    exact H.2 i (by simp at hi; omega)⟩
theorem Apply_p1 (k : Nat) (s : List UInt8) (hs : s.length ≤ 4000) (l : List Ed) (H : SmallN l) (e : Nat) (he : e ≤ s.length) (hN : Num s.length e l) (hg : (s.length : Int) + grow l ≤ 4000) :
    ∀ (m j : Nat) (x7 : List (Option N0)) (ts : List (List UInt8)) (m4 rest : Option N0), j < m → j ≤ l.length → Pt x7 ts → ts.flatten = pf s (l.drop j) → x7.length ≤ 2 * (l.length - j) → Ro (s.take (xA s.length (l.drop j))) rest →
    ∃ o', edit_Apply.p1 k m (l.map cE) x7 ((j : Int) - 1) m4 rest = some ((o', 0), ()) ∧ Ro (app s l) o'
  | 0, j, x7, ts, m4, rest, h, _, _, _, _, _ => by omega
  | m + 1, j, x7, ts, m4, rest, h, hj, hP, hf, hl, R => by
    have hL := H.1
    have step : edit_Apply.p1 k (m + 1) (l.map cE) x7 ((j : Int) - 1) m4 rest = edit_Apply.t1 (edit_Apply.p1 k m) (edit_Apply.p2 k) (l.map cE) x7 ((j : Int) - 1) m4 rest := rfl
    rw [step]
    have hal := applen s l e hN he
    obtain ⟨e', he', hN'⟩ := hN.drop j he
    obtain ⟨x1, x2⟩ := hN'.xA he'
    have hpl := pf_len s l e hN
    simp only [edit_Apply.t1, iteB_dec]
    cases j with
    | zero =>
      rw [if_neg (by omega)]
      rw [List.drop_zero] at hf R hN'
      show ∃ o', edit_Apply.t2 x7 m4 rest = some ((o', 0), ()) ∧ _
      simp only [edit_Apply.t2, room]
      rw [mustR_dec (by simp; omega)]
      have hlt : (s.take (xA s.length l)).length ≤ 4000 := by rw [List.length_take]; omega
      have Q := hP.cons R (by omega)
      have J := Join_eq (rest :: x7) (s.take (xA s.length l) :: ts) Q.1 Q.2 (by simp; omega)
      have ef : (s.take (xA s.length l) :: ts).flatten = app s l := by rw [List.flatten_cons, hf, ← app_pf s l e hN]
      rw [ef, if_pos (by omega)] at J
      obtain ⟨o', f1, f2⟩ := J
      refine ⟨o', ?_, f2⟩
      show bindR (s_rope_Join (rest :: x7, ())) _ = _
      rw [f1, bindR_val]
    | succ j =>
      obtain ⟨o, ho, hget⟩ := getE l j (by omega)
      rw [if_pos (by omega), show (((j + 1 : Nat) : Int) - 1) = (j : Int) by omega]
      obtain ⟨e2, he2, hN2⟩ := hN.drop j he
      rw [ho] at hN2
      obtain ⟨a1, a2, a3⟩ := hN2
      obtain ⟨y1, y2⟩ := a3.xA a2
      have hwl : j < (l.map cE).length := by simp; omega
      have hpd := pf_drop s l j
      rw [ho] at hpd
      have hpo : pf s (o :: l.drop (j + 1)) = o.2.2 ++ ((s.take (xA s.length (l.drop (j + 1)))).drop (o.1 + o.2.1) ++ pf s (l.drop (j + 1))) := rfl
      have hins : o.2.2.length ≤ 4000 := by
        rw [hpo, List.length_append] at hpd
        omega
      have lT : (s.take (xA s.length (l.drop (j + 1)))).length = xA s.length (l.drop (j + 1)) := by rw [List.length_take]; omega
      obtain ⟨a, b, q1, q2, q3⟩ := Split_eq R (by omega) ((o.1 + o.2.1 : Nat) : Int) (by omega) (by omega)
      rw [Int.toNat_natCast] at q2 q3
      obtain ⟨w, hw, u1, u2⟩ := Of_spec o.2.2 hins
      have lA : ((s.take (xA s.length (l.drop (j + 1)))).take (o.1 + o.2.1)).length = o.1 + o.2.1 := by rw [List.length_take]; omega
      obtain ⟨c, d, v1, v2, v3⟩ := Split_eq q2 (by omega) (o.1 : Int) (by omega) (by omega)
      rw [Int.toNat_natCast, List.take_take, List.take_take, Nat.min_eq_left (by omega), Nat.min_eq_left (by omega)] at v2
      have wad : w64 ((o.1 : Int) + (o.2.1 : Int)) = ((o.1 + o.2.1 : Nat) : Int) := w64_id (by omega) (by omega)
      have wj : w64 ((j : Int) - 1) = (j : Int) - 1 := w64_id (by omega) (by omega)
      simp only [withinR_nat hwl, hget, cE, wad, q1, bindR_val, u1, v1, room, wj]
      have hr : decide ((List.length ([w, b] : List (Option N0)) + List.length x7) * 4096 ≤ 140737488355328) = true := decide_eq_true (by simp; omega)
      simp only [hr, mustR_true, meetK_self]
      have Q := (hP.cons q3 (by rw [List.length_drop]; omega)).cons ⟨hw, u2⟩ (by omega)
      exact Apply_p1 k s hs l H e he hN hg m j (w :: b :: x7) (o.2.2 :: _ :: ts) m4 c (by omega) (by omega) Q (by rw [List.flatten_cons, List.flatten_cons, hf, ho, hpo]) (by simp; omega) (by rw [ho]; exact v2)
theorem Apply_eq {s : List UInt8} {r : Option N0} (R : Ro s r) (hs : s.length ≤ 4000) (l : List Ed) (H : SmallN l) (hN : Num s.length 0 l) (hE : Edgs s l) (hg : (s.length : Int) + grow l ≤ 4000) :
    ∃ o', s_edit_Apply (r, (l.map cE, ())) = some ((o', 0), ()) ∧ Ro (app s l) o' := by
  have st : s_edit_Apply (r, (l.map cE, ())) = edit_Apply.t0 (edit_Apply.p1 fuel fuel) r (l.map cE) := rfl
  rw [st]
  have hL := H.1
  have hc : chk s 0 s.length (l.map cE) = 0 := chk_of s l 0 _ hN hE hg
  simp only [edit_Apply.t0, check_eq R (by omega) _ H.map, bindR_val, hc, decide_true, Bool.not_true, iteB_false, List.length_map]
  rw [w64_id (by omega) (by omega)]
  have hx : (s.take (xA s.length (l.drop l.length))) = s := by rw [List.drop_length]; exact List.take_length
  exact Apply_p1 fuel s hs l H 0 (by omega) hN hg fuel l.length [] [] none r (fuel_gt _ (by omega)) (Nat.le_refl _) ⟨rfl, fun i hi => by cases hi⟩ (by rw [List.drop_length]; rfl) (by simp) (by rw [hx]; exact R)
theorem rApply_p1 (k : Nat) (s : List UInt8) (hs : s.length ≤ 10000) (l : List Ed) (H : SmallN l) (e : Nat) (he : e ≤ s.length) (hN : Num s.length e l) :
    ∀ (m j : Nat), j < m → j ≤ l.length → ref04_Apply.p1 k m (app s (l.drop j)) (l.map cE) ((j : Int) - 1) = some (app s l, ())
  | 0, j, h, _ => by omega
  | m + 1, j, h, hj => by
    have hL := H.1
    have step : ref04_Apply.p1 k (m + 1) (app s (l.drop j)) (l.map cE) ((j : Int) - 1) = ref04_Apply.t1 (ref04_Apply.p1 k m) (ref04_Apply.p2 k) (app s (l.drop j)) (l.map cE) ((j : Int) - 1) := rfl
    rw [step]
    simp only [ref04_Apply.t1, iteB_dec]
    cases j with
    | zero => rw [if_neg (by omega)]; rfl
    | succ j =>
      obtain ⟨o, ho, hget⟩ := getE l j (by omega)
      rw [if_pos (by omega), show (((j + 1 : Nat) : Int) - 1) = (j : Int) by omega]
      obtain ⟨e2, he2, hN2⟩ := hN.drop j he
      rw [ho] at hN2
      obtain ⟨a1, a2, a3⟩ := hN2
      obtain ⟨y1, y2⟩ := a3.xA a2
      have hwl : j < (l.map cE).length := by simp; omega
      have hins := ((H.drop j)).2 o (by rw [ho]; exact List.mem_cons_self ..)
      have hal := applen s (l.drop (j + 1)) _ a3 a2
      have hgl := grow_le _ (H.drop (j + 1))
      have hll : (l.drop (j + 1)).length ≤ 100 := (H.drop (j + 1)).1
      have hpl := pf_len s (l.drop (j + 1)) _ a3
      have wad : w64 ((o.1 : Int) + (o.2.1 : Int)) = ((o.1 + o.2.1 : Nat) : Int) := w64_id (by omega) (by omega)
      have wj : w64 ((j : Int) - 1) = (j : Int) - 1 := w64_id (by omega) (by omega)
      simp only [withinR_nat hwl, hget, cE, wad, wj, Int.toNat_natCast, List.drop_zero, List.take_length]
      have hb : o.1 + o.2.1 ≤ (app s (l.drop (j + 1))).length := by omega
      have tl : ((app s (l.drop (j + 1))).take o.1).length = o.1 := by rw [List.length_take]; omega
      rw [mustR_dec (by omega), mustR_dec (by omega), mustR_dec (by omega), mustR_dec (by omega), mustR_dec (by omega), mustR_dec (by rw [List.length_append, tl, List.length_drop]; omega)]
      have ea : app s (l.drop j) = (app s (l.drop (j + 1))).take o.1 ++ o.2.2 ++ (app s (l.drop (j + 1))).drop (o.1 + o.2.1) := by rw [ho]; rfl
      rw [← ea]
      exact rApply_p1 k s hs l H e he hN m j (by omega) (by omega)
theorem rApply_eq (s : List UInt8) (hs : s.length ≤ 10000) (l : List Ed) (H : SmallN l) (hN : Num s.length 0 l) : s_ref04_Apply (s, (l.map cE, ())) = some (app s l, ()) := by
  have hL := H.1
  have st : s_ref04_Apply (s, (l.map cE, ())) = ref04_Apply.t0 (ref04_Apply.p1 fuel fuel) s (l.map cE) := rfl
  rw [st]
  simp only [ref04_Apply.t0, List.length_map]
  rw [w64_id (by omega) (by omega)]
  have := rApply_p1 fuel s hs l H 0 (by omega) hN fuel l.length (fuel_gt _ (by omega)) (Nat.le_refl _)
  rw [List.drop_length] at this
  exact this
theorem grow_take_step (l : List Ed) (i : Nat) (o : Ed) (h : i < l.length) (ho : l.drop i = o :: l.drop (i + 1)) : grow (l.take (i + 1)) = grow (l.take i) + ((o.2.2.length : Int) - o.2.1) := by
  have e : ∀ (a b : List Ed), grow (a ++ b) = grow a + grow b := by
    intro a b
    induction a with
    | nil => simp [grow]
    | cons x a ih => simp only [List.cons_append, grow, ih]; omega
  have h2 : l.take (i + 1) = l.take i ++ [o] := by
    rw [List.take_succ_eq_append_getElem h]
    congr 2
    rw [List.drop_eq_getElem_cons h] at ho
    exact (List.cons.inj ho).1
  rw [h2, e]; simp [grow]
theorem grow_bound (n : Nat) (hn : n ≤ 10000) : ∀ (l : List Ed) (e : Nat), SmallN l → Num n e l → -10000 * (l.length : Int) ≤ grow l
  | [], _, _, _ => by simp [grow]
  | o :: l, e, H, hN => by
    have := grow_bound n hn l _ H.cons.2 hN.2.2
    have := hN.2.1
    simp only [grow, List.length_cons]; omega
theorem Num.take {n : Nat} : ∀ {l : List Ed} {e : Nat} (i : Nat), Num n e l → Num n e (l.take i)
  | l, e, 0, H => by simp only [List.take_zero]; trivial
  | [], e, i + 1, H => trivial
  | o :: l, e, i + 1, H => ⟨H.1, H.2.1, H.2.2.take i⟩
def bk (s : List UInt8) : Int → List Ed → List EdI
  | _, [] => []
  | g, o :: l => ((o.1 : Int) + g, ((o.2.2.length : Int), (s.take (o.1 + o.2.1)).drop o.1)) :: bk s (g + ((o.2.2.length : Int) - o.2.1)) l
def bkN (s : List UInt8) : Nat → Nat → List Ed → List Ed
  | _, _, [] => []
  | e, f, o :: l => (f + (o.1 - e), (o.2.2.length, (s.take (o.1 + o.2.1)).drop o.1)) :: bkN s (o.1 + o.2.1) (f + (o.1 - e) + o.2.2.length) l
theorem bk_bkN (s : List UInt8) (n : Nat) : ∀ (l : List Ed) (e f : Nat), Num n e l → bk s ((f : Int) - e) l = (bkN s e f l).map cE
  | [], e, f, _ => rfl
  | o :: l, e, f, H => by
    have h1 := H.1
    have ih := bk_bkN s n l (o.1 + o.2.1) (f + (o.1 - e) + o.2.2.length) H.2.2
    simp only [bk, bkN, List.map_cons]
    rw [← ih]
    congr 1
    · simp only [cE]; congr 1; omega
    · congr 1; omega
theorem Back_p1 (k : Nat) {s : List UInt8} {r : Option N0} (R : Ro s r) (hs : s.length ≤ 10000) (l : List Ed) (H : SmallN l) (hN : Num s.length 0 l) : ∀ (m i : Nat) (e : Int) (out acc : List EdI), l.length < m + i → i ≤ l.length → acc.length = i → out.length = i →
    edit_Back.p1 k m out (l.map cE) (l.length : Int) (i : Int) r ((grow (l.take i), e), acc) = some ((out ++ bk s (grow (l.take i)) (l.drop i), 0), ())
  | 0, i, e, out, acc, h, hi, _, _ => by omega
  | m + 1, i, e, out, acc, h, hi, ha, hout => by
    have hL := H.1
    have step : edit_Back.p1 k (m + 1) out (l.map cE) (l.length : Int) (i : Int) r ((grow (l.take i), e), acc) = edit_Back.t1 (edit_Back.p1 k m) (edit_Back.p2 k) out (l.map cE) (l.length : Int) (i : Int) r ((grow (l.take i), e), acc) := rfl
    rw [step]
    simp only [edit_Back.t1, iteB_dec]
    by_cases c : i < l.length
    · obtain ⟨o, ho, hget⟩ := getE l i c
      have hwl : i < (l.map cE).length := by simp; omega
      have hins := ((H.drop i)).2 o (by rw [ho]; exact List.mem_cons_self ..)
      obtain ⟨e2, he2, hN2⟩ := hN.drop i (Nat.zero_le _)
      rw [ho] at hN2
      have b1 := hN2.1
      have b2 := hN2.2.1
      have g1 := grow_le _ (H.take i)
      have g2 := grow_bound s.length hs _ 0 (H.take i) (hN.take i)
      have g3 : (l.take i).length = i := by rw [List.length_take]; omega
      have P := put_eq (grow (l.take i)) e acc (cE o) (by omega) (by omega) (by omega) hins (by simp only [cE]; omega) (by simp only [cE]; omega) (by simp only [cE]; omega) (by simp only [cE]; omega)
      have wad : w64 ((o.1 : Int) + (o.2.1 : Int)) = ((o.1 + o.2.1 : Nat) : Int) := w64_id (by omega) (by omega)
      have wag : w64 ((o.1 : Int) + grow (l.take i)) = (o.1 : Int) + grow (l.take i) := w64_id (by omega) (by omega)
      have wi : w64 ((i : Int) + 1) = ((i + 1 : Nat) : Int) := w64_id (by omega) (by omega)
      have sl := Slice_eq R (by omega) (o.1 : Int) ((o.1 + o.2.1 : Nat) : Int)
      rw [if_pos (by omega), Int.toNat_natCast, Int.toNat_natCast] at sl
      simp only [cE] at P
      rw [if_pos (by omega)]
      simp only [withinR_nat hwl, hget, cE, wad, sl, bindR_val, wag, P, room, wi]
      rw [mustR_dec (by simp; omega)]
      have := Back_p1 k R hs l H hN m (i + 1) ((o.1 : Int) + (o.2.1 : Int)) (out ++ [((o.1 : Int) + grow (l.take i), ((o.2.2.length : Int), (s.take (o.1 + o.2.1)).drop o.1))]) (acc ++ [((o.1 : Int), ((o.2.1 : Int), o.2.2))]) (by omega) (by omega) (by simp [ha]) (by simp [hout])
      rw [grow_take_step l i o c ho] at this
      refine Eq.trans this ?_
      rw [ho, bk, List.append_assoc]; rfl
    · rw [if_neg (by omega), List.drop_of_length_le (by omega)]
      show some ((out, (0 : Int)), ()) = _
      rw [bk, List.append_nil]
theorem Back_eq {s : List UInt8} {r : Option N0} (R : Ro s r) (hs : s.length ≤ 10000) (l : List Ed) (H : SmallN l) (hN : Num s.length 0 l) (hE : Edgs s l) (hg : (s.length : Int) + grow l ≤ 4000) :
    s_edit_Back (r, (l.map cE, ())) = some (((bkN s 0 0 l).map cE, 0), ()) := by
  have st : s_edit_Back (r, (l.map cE, ())) = edit_Back.t0 (edit_Back.p1 fuel fuel) r (l.map cE) := rfl
  have hc : chk s 0 s.length (l.map cE) = 0 := chk_of s l 0 _ hN hE hg
  rw [st]
  simp only [edit_Back.t0, check_eq R (by omega) _ H.map, bindR_val, hc, decide_true, Bool.not_true, iteB_false, List.length_map]
  have := Back_p1 fuel R hs l H hN fuel 0 0 [] [] (by have := fuel_gt l.length (by have := H.1; omega); omega) (by omega) rfl rfl
  have e := bk_bkN s s.length l 0 0 hN
  rw [← e]
  exact this
theorem Same_p1 (k : Nat) (l : List EdI) (hl : l.length ≤ 1000) : ∀ (m i : Nat), l.length < m + i → i ≤ l.length → ref04_Same.p1 k m l l (i : Int) = some (true, ())
  | 0, i, h, hi => by omega
  | m + 1, i, h, hi => by
    have step : ref04_Same.p1 k (m + 1) l l (i : Int) = ref04_Same.t1 (ref04_Same.p1 k m) (ref04_Same.p2 k) l l (i : Int) := rfl
    rw [step]
    simp only [ref04_Same.t1, iteB_dec]
    by_cases c : i < l.length
    · rw [if_pos (by omega)]
      have wi : w64 ((i : Int) + 1) = ((i + 1 : Nat) : Int) := w64_id (by omega) (by omega)
      simp only [withinR_nat c, decide_true, Bool.and_self, Bool.not_true, iteB_false, wi]
      exact Same_p1 k l hl m (i + 1) (by omega) (by omega)
    · rw [if_neg (by omega)]; rfl
theorem Same_eq (l : List EdI) (hl : l.length ≤ 1000) : s_ref04_Same (l, (l, ())) = some (true, ()) := by
  have st : s_ref04_Same (l, (l, ())) = ref04_Same.t0 (ref04_Same.p1 fuel fuel) l l := rfl
  rw [st]
  simp only [ref04_Same.t0, decide_true, Bool.not_true, iteB_false]
  exact Same_p1 fuel l hl fuel 0 (by have := fuel_gt l.length (by omega); omega) (by omega)

def hE : List UInt8 → Bool
  | [] => true
  | c :: _ => !isF c
theorem edg_hE (t : List UInt8) (i : Nat) (h : i ≤ t.length) : edg t (i : Int) = hE (t.drop i) := by
  by_cases c : i = t.length
  · subst c; rw [edg_len, List.drop_length]; rfl
  · rw [edg_at t i (by omega), drop_cons t i (by omega)]; rfl
theorem wh_hE {S : List UInt8} (h : wh fuel S = true) : hE S = true := by
  obtain ⟨z, hz⟩ := fuel10
  cases S with
  | nil => rfl
  | cons a r =>
    rw [hz, show z + 10 = (z + 9) + 1 by omega] at h
    simp only [wh] at h
    cases hF : isF a with
    | false => simp [hE, hF]
    | true =>
      have ha := isF_iff.1 hF
      have : dec (a :: r) = no := by
        simp only [dec]
        rw [if_neg (by omega), if_pos (by omega)]
      rw [this] at h
      simp [no] at h
theorem wh_parts : ∀ (n : Nat) (s : List UInt8), wh n s = true → ∃ ms, (∀ m ∈ ms, Sg m) ∧ s = W ms
  | 0, s, h => by cases h
  | n + 1, [], _ => ⟨[], (fun m hm => by cases hm), rfl⟩
  | n + 1, a :: r, h => by
    simp only [wh] at h
    rcases dec_spec (a :: r) with hd | ⟨m, q, hd, hs, h1, h2⟩
    · rw [hd] at h; simp [no] at h
    · have := enc_len m
      rw [hd, if_neg (by simp only; omega)] at h
      have hq : (a :: r).drop (Int.toNat ((enc m).length : Int)) = q := by rw [Int.toNat_natCast, hs]; simp
      simp only at h
      rw [hq] at h
      obtain ⟨ms, k1, k2⟩ := wh_parts n q h
      refine ⟨m :: ms, fun x hx => ?_, by rw [W_cons, ← k2]; exact hs⟩
      rcases List.mem_cons.1 hx with rfl | hx
      · exact ⟨h1, h2⟩
      · exact k1 x hx
theorem wh_piece {s : List UInt8} (hs : s.length < 100000000) (h : wh fuel s = true) (a b : Nat) (hab : a ≤ b) (hb : b ≤ s.length) (ha : edg s (a : Int) = true) (hb' : edg s (b : Int) = true) : wh fuel ((s.take b).drop a) = true := by
  obtain ⟨ms, h1, rfl⟩ := wh_parts _ _ h
  obtain ⟨ps, k1, k2, _⟩ := piece_W ms h1 a b hab ha hb'
  rw [k2]
  refine wh_W ps fuel k1 ?_
  rw [← k2, List.length_drop, List.length_take]
  exact fuel_gt _ (by omega)
end Go.Proofs.Ytdifekkamjoepaa.Vm.Rp
namespace Go.Proofs.Ytdifekkamjoepaa.Vm.Rp
open Go Go.Proofs.Ytdifekkamjoepaa.Vm
set_option linter.unusedVariables false
def exL : List EdI := [((1 : Int), ((1 : Int), ([120, 121] : List UInt8))), ((3 : Int), ((0 : Int), ([122] : List UInt8)))]
def exN : List Ed := [(1, (1, [120, 121])), (3, (0, [122]))]
theorem wh_small (S : List UInt8) (ms : List Nat) (h : ∀ m ∈ ms, Sg m) (e : S = W ms) (hl : S.length < 1000) : wh fuel S = true := by
  rw [e]; exact wh_W ms fuel h (by rw [← e]; exact fuel_gt _ (by omega))
theorem mv1 : s_edit_Move (exL, ((3 : Int), (false, ()))) = some (4, ()) := by kernel_rfl
theorem mv2 : s_edit_Move (exL, ((3 : Int), (true, ()))) = some (5, ()) := by kernel_rfl
theorem mv3 : s_edit_Move (exL, ((2 : Int), (false, ()))) = some (3, ()) := by kernel_rfl
theorem df1 : s_edit_Diff (([97, 98, 99] : List UInt8), (([97, 120, 99] : List UInt8), ())) = some (((1 : Int), ((1 : Int), ([120] : List UInt8))), ()) := by kernel_rfl
theorem alive4 : s_law04_alive () = some (true, ()) := by
  obtain ⟨o, h, e, T⟩ := Of_spec [97, 98, 99, 100] (by decide)
  have R : Ro [97, 98, 99, 100] o := ⟨h, T⟩
  have hS : SmallN exN := ⟨by decide, by decide⟩
  have hN : Num [97, 98, 99, 100].length 0 exN := ⟨by decide, by decide, by decide, by decide, trivial⟩
  have w1 : wh fuel [120, 121] = true := wh_small _ [120, 121] (fun m hm => by simp at hm; unfold Sg; omega) (by decide) (by decide)
  have w2 : wh fuel [122] = true := wh_small _ [122] (fun m hm => by simp at hm; unfold Sg; omega) (by decide) (by decide)
  have hE : Edgs [97, 98, 99, 100] exN := fun x hx => by
    rcases List.mem_cons.1 hx with rfl | hx
    · exact ⟨by decide, by decide, w1⟩
    · rcases List.mem_cons.1 hx with rfl | hx
      · exact ⟨by decide, by decide, w2⟩
      · cases hx
  have hg : (([97, 98, 99, 100] : List UInt8).length : Int) + grow exN ≤ 4000 := by decide
  obtain ⟨o', A, R'⟩ := Apply_eq R (by decide) exN hS hN hE hg
  have B := Back_eq R (by decide) exN hS hN hE hg
  have ea : app [97, 98, 99, 100] exN = [97, 120, 121, 99, 122, 100] := by decide
  rw [ea] at R'
  have eb : (bkN [97, 98, 99, 100] 0 0 exN).map cE = [((1 : Int), ((2 : Int), ([98] : List UInt8))), ((4 : Int), ((1 : Int), ([] : List UInt8)))] := by decide
  rw [eb] at B
  have A : s_edit_Apply (o, (exL, ())) = some ((o', 0), ()) := A
  have B : s_edit_Back (o, (exL, ())) = _ := B
  have st : s_law04_alive () = law04_alive.t0 := rfl
  rw [st]
  have A' := A
  have B' := B
  have m1 := mv1
  have m2 := mv2
  have m3 := mv3
  unfold exL at A' B' m1 m2 m3
  simp only [law04_alive.t0, e, bindR_val, A', B', m1, m2, m3, df1, text_eq R' (by decide), decide_true, iteB_true]
  have S := Same_eq [((1 : Int), ((2 : Int), ([98] : List UInt8))), ((4 : Int), ((1 : Int), ([] : List UInt8)))] (by decide)
  rw [S]
  rfl
end Go.Proofs.Ytdifekkamjoepaa.Vm.Rp
namespace Go.Proofs.Ytdifekkamjoepaa.Vm.Rp
open Go Go.Proofs.Ytdifekkamjoepaa.Vm
set_option linter.unusedVariables false

theorem Num.up {n : Nat} : ∀ {l : List Ed} {e : Nat}, Num n e l → ∀ o ∈ l, e ≤ o.1
  | x :: l, e, H, o, ho => by
    rcases List.mem_cons.1 ho with rfl | ho
    · exact H.1
    · have := Num.up H.2.2 o ho
      have := H.1
      omega
theorem Num.low {n : Nat} : ∀ {l : List Ed} {e : Nat} (i : Nat) (o : Ed), Num n e l → l.drop i = o :: l.drop (i + 1) → ∀ x ∈ l.take i, x.1 ≤ o.1
  | [], e, i, o, _, h => by simp at h
  | y :: l, e, 0, o, H, h => by intro x hx; simp at hx
  | y :: l, e, i + 1, o, H, h => by
    intro x hx
    rw [List.take_succ_cons] at hx
    have h' : l.drop i = o :: l.drop (i + 1) := by simpa using h
    rcases List.mem_cons.1 hx with rfl | hx
    · have := Num.up H.2.2 o (List.mem_of_mem_drop (by rw [h']; exact List.mem_cons_self ..))
      omega
    · exact Num.low i o H.2.2 h' x hx
end Go.Proofs.Ytdifekkamjoepaa.Vm.Rp
namespace Go.Proofs.Ytdifekkamjoepaa.Vm.Rp
open Go Go.Proofs.Ytdifekkamjoepaa.Vm
set_option linter.unusedVariables false

theorem uedge_edg (s : List UInt8) (i : Int) : s_runes_Edge (s, (i, ())) = some (edg s i, ()) := by
  show runes_Edge.t0 s i = _
  simp only [runes_Edge.t0, iteB_dec, edg]
  by_cases h : i = (s.length : Int)
  · rw [if_pos h]; simp [h]
  rw [if_neg h]
  by_cases h0 : 0 ≤ i
  · rw [if_pos h0]
    by_cases h1 : i < (s.length : Int)
    · rw [if_pos h1, withinR_pos h0 h1]
      show bindR (s_runes_isFollower (((s.getD i.toNat 0).toNat : Int), ())) _ = _
      rw [isFollower_eq, bindR_val]; simp [h, h0, h1, notB_eq]
    · rw [if_neg h1]; simp [h, h1]
  · rw [if_neg h0]; simp [h, h0]

theorem W_len : ∀ (ms : List Nat), (W ms).length ≤ 4 * ms.length
  | [] => by simp [W]
  | m :: ms => by
    have := W_len ms
    have := enc_len m
    rw [W_cons, List.length_append, List.length_cons]; omega
theorem W_more (ms : List Nat) (h : ∀ m ∈ ms, Sg m) (v : Int) : ∃ ms', (∀ m ∈ ms', Sg m) ∧ ms'.length ≤ ms.length + 1 ∧ W ms ++ (if sgn v = true then enc v.toNat else []) = W ms' := by
  by_cases c : sgn v = true
  · obtain ⟨m, rfl, h1, h2⟩ := sgn_nat c
    refine ⟨ms ++ [m], fun x hx => ?_, by simp, ?_⟩
    · rcases List.mem_append.1 hx with hx | hx
      · exact h x hx
      · rw [List.mem_singleton.1 hx]; exact ⟨h1, h2⟩
    · rw [if_pos c, W_app]; simp [W]
  · exact ⟨ms, h, by omega, by rw [if_neg c, List.append_nil]⟩
theorem txt_p1 (k : Nat) (a b : List Int) (t : List UInt8) : ∀ (m i : Nat) (ms : List Nat), 60 < m + i → i ≤ 60 → (∀ m ∈ ms, Sg m) → ms.length ≤ i →
    ∃ ms', (∀ m ∈ ms', Sg m) ∧ ms'.length ≤ 60 ∧ law04_EditDiffs.p1 k m a b (W ms) t (i : Int) = law04_EditDiffs.p4 k k b (W ms') t 0
  | 0, i, ms, h, hi, _, _ => by omega
  | m + 1, i, ms, h, hi, hm, hl => by
    have step : law04_EditDiffs.p1 k (m + 1) a b (W ms) t (i : Int) = law04_EditDiffs.t1 (law04_EditDiffs.p2 k (law04_EditDiffs.p1 k m)) (law04_EditDiffs.p3 k) a b (W ms) t (i : Int) := rfl
    have out : law04_EditDiffs.p3 k b (W ms) t = law04_EditDiffs.p4 k k b (W ms) t 0 := rfl
    rw [step]
    simp only [law04_EditDiffs.t1, iteB_dec]
    by_cases c : (i : Int) < (a.length : Int)
    · rw [if_pos c]
      by_cases c2 : (i : Int) < 60
      · rw [if_pos c2]
        have wl := W_len ms
        have wi : w64 ((i : Int) + 1) = ((i + 1 : Nat) : Int) := w64_id (by omega) (by omega)
        obtain ⟨ms', q1, q2, q3⟩ := W_more ms hm (a.getD i 0)
        have wl2 := W_len ms'
        obtain ⟨r, r1, r2, r3⟩ := txt_p1 k a b t m (i + 1) ms' (by omega) (by omega) q1 (by omega)
        refine ⟨r, r1, r2, ?_⟩
        show law04_EditDiffs.t2 (law04_EditDiffs.p1 k m) a b (W ms) t (i : Int) = _
        simp only [law04_EditDiffs.t2]
        rw [withinR_nat (by omega), rbytes_eq, bindR_val, mustR_dec (by
          have := congrArg List.length q3
          rw [List.length_append] at this
          show (W ms).length + (if sgn (a.getD i 0) = true then enc (a.getD i 0).toNat else []).length ≤ _
          omega), wi]
        show law04_EditDiffs.p1 k m a b (W ms ++ (if sgn (a.getD i 0) = true then enc (a.getD i 0).toNat else [])) t _ = _
        rw [q3]; exact r3
      · rw [if_neg c2, out]; exact ⟨ms, hm, by omega, rfl⟩
    · rw [if_neg c, out]; exact ⟨ms, hm, by omega, rfl⟩
theorem txt_p4 (k : Nat) (b : List Int) (s : List UInt8) : ∀ (m i : Nat) (ms : List Nat), 60 < m + i → i ≤ 60 → (∀ m ∈ ms, Sg m) → ms.length ≤ i →
    ∃ ms', (∀ m ∈ ms', Sg m) ∧ ms'.length ≤ 60 ∧ law04_EditDiffs.p4 k m b s (W ms) (i : Int) = law04_EditDiffs.p6 k s (W ms')
  | 0, i, ms, h, hi, _, _ => by omega
  | m + 1, i, ms, h, hi, hm, hl => by
    have step : law04_EditDiffs.p4 k (m + 1) b s (W ms) (i : Int) = law04_EditDiffs.t4 (law04_EditDiffs.p5 k (law04_EditDiffs.p4 k m)) (law04_EditDiffs.p6 k) b s (W ms) (i : Int) := rfl
    rw [step]
    simp only [law04_EditDiffs.t4, iteB_dec]
    by_cases c : (i : Int) < (b.length : Int)
    · rw [if_pos c]
      by_cases c2 : (i : Int) < 60
      · rw [if_pos c2]
        have wl := W_len ms
        have wi : w64 ((i : Int) + 1) = ((i + 1 : Nat) : Int) := w64_id (by omega) (by omega)
        obtain ⟨ms', q1, q2, q3⟩ := W_more ms hm (b.getD i 0)
        have wl2 := W_len ms'
        obtain ⟨r, r1, r2, r3⟩ := txt_p4 k b s m (i + 1) ms' (by omega) (by omega) q1 (by omega)
        refine ⟨r, r1, r2, ?_⟩
        show law04_EditDiffs.t5 (law04_EditDiffs.p4 k m) b s (W ms) (i : Int) = _
        simp only [law04_EditDiffs.t5]
        rw [withinR_nat (by omega), rbytes_eq, bindR_val, mustR_dec (by
          have := congrArg List.length q3
          rw [List.length_append] at this
          show (W ms).length + (if sgn (b.getD i 0) = true then enc (b.getD i 0).toNat else []).length ≤ _
          omega), wi]
        show law04_EditDiffs.p4 k m b s (W ms ++ (if sgn (b.getD i 0) = true then enc (b.getD i 0).toNat else [])) _ = _
        rw [q3]; exact r3
      · rw [if_neg c2]; exact ⟨ms, hm, by omega, rfl⟩
    · rw [if_neg c]; exact ⟨ms, hm, by omega, rfl⟩

theorem take_one (s : List UInt8) (i : Nat) (h : i < s.length) : s.take (i + 1) = s.take i ++ [s.getD i 0] := by
  rw [List.take_succ_eq_append_getElem h]; simp [h]
theorem getD_take (s : List UInt8) (i j : Nat) (h : i < j) : (s.take j).getD i 0 = s.getD i 0 := by
  simp only [List.getD_eq_getElem?_getD]; rw [List.getElem?_take_of_lt h]
theorem getD_drop (s : List UInt8) (i j : Nat) : (s.drop j).getD i 0 = s.getD (j + i) 0 := by
  simp only [List.getD_eq_getElem?_getD, List.getElem?_drop]
theorem byteAt_inj (s t : List UInt8) (i j : Nat) : byteAt s i = byteAt t j ↔ s.getD i 0 = t.getD j 0 := by
  unfold byteAt
  constructor
  · intro h
    have h : (s.getD i 0).toNat = (t.getD j 0).toNat := by omega
    exact UInt8.toNat_inj.1 h
  · intro h; rw [h]
theorem diff_p1 (k : Nat) (s t : List UInt8) (hs : s.length < 1000) (ht : t.length < 1000) (m4 : EdI) : ∀ (m i : Nat), s.length < m + i → i ≤ s.length → i ≤ t.length → s.take i = t.take i →
    ∃ n, n ≤ s.length ∧ n ≤ t.length ∧ s.take n = t.take n ∧ (∀ j, j ≤ s.length → j ≤ t.length → s.take j = t.take j → j ≤ n) ∧ edit_Diff.p1 k m s t (i : Int) m4 = edit_Diff.p4 k k s t (n : Int) m4
  | 0, i, h, _, _, _ => by omega
  | m + 1, i, h, h1, h2, he => by
    have step : edit_Diff.p1 k (m + 1) s t (i : Int) m4 = edit_Diff.t1 (edit_Diff.p2 k (edit_Diff.p1 k m)) (edit_Diff.p3 k) s t (i : Int) m4 := rfl
    have out : edit_Diff.p3 k s t (i : Int) m4 = edit_Diff.p4 k k s t (i : Int) m4 := rfl
    rw [step]
    simp only [edit_Diff.t1, iteB_dec]
    by_cases c1 : i < s.length
    · rw [if_pos (by omega)]
      by_cases c2 : i < t.length
      · rw [if_pos (by omega), withinR_nat c1, withinR_nat c2]
        by_cases c3 : byteAt s i = byteAt t i
        · rw [if_pos c3]
          have wi : w64 ((i : Int) + 1) = ((i + 1 : Nat) : Int) := w64_id (by omega) (by omega)
          have nxt : edit_Diff.p2 k (edit_Diff.p1 k m) s t (i : Int) m4 = edit_Diff.p1 k m s t ((i + 1 : Nat) : Int) m4 := by
            show edit_Diff.p1 k m s t (w64 ((i : Int) + 1)) m4 = _
            rw [wi]
          rw [nxt]
          exact diff_p1 k s t hs ht m4 m (i + 1) (by omega) (by omega) (by omega) (by rw [take_one s i c1, take_one t i c2, he, (byteAt_inj s t i i).1 c3])
        · rw [if_neg c3, out]
          refine ⟨i, h1, h2, he, fun j j1 j2 je => ?_, rfl⟩
          rcases Nat.lt_or_ge i j with hlt | hge
          · exfalso
            apply c3
            rw [byteAt_inj, ← getD_take s i j hlt, ← getD_take t i j hlt, je]
          · exact hge
      · rw [if_neg (by omega), out]
        exact ⟨i, h1, h2, he, fun j j1 j2 je => by omega, rfl⟩
    · rw [if_neg (by omega), out]
      exact ⟨i, h1, h2, he, fun j j1 j2 je => by omega, rfl⟩
theorem diff_p4 (k : Nat) (s t : List UInt8) (m4 : EdI) (hs : s.length < 1000) (e1 : edg s 0 = true) (e2 : edg t 0 = true) : ∀ (m i : Nat), i < m → i ≤ s.length →
    ∃ n, n ≤ i ∧ edg s (n : Int) = true ∧ edg t (n : Int) = true ∧ (∀ j : Nat, j ≤ i → edg s (j : Int) = true → edg t (j : Int) = true → j ≤ n) ∧ edit_Diff.p4 k m s t (i : Int) m4 = edit_Diff.p7 k k s t (n : Int) 0 m4
  | 0, i, h, _ => by omega
  | m + 1, i, h, hi => by
    have step : edit_Diff.p4 k (m + 1) s t (i : Int) m4 = edit_Diff.t4 (edit_Diff.p5 k (edit_Diff.p4 k m)) (edit_Diff.p6 k) s t (i : Int) m4 := rfl
    rw [step]
    simp only [edit_Diff.t4, uedge_edg, bindR_val]
    have go : (edg s (i : Int) = false ∨ edg t (i : Int) = false) → ∃ n, n ≤ i ∧ edg s (n : Int) = true ∧ edg t (n : Int) = true ∧ (∀ j : Nat, j ≤ i → edg s (j : Int) = true → edg t (j : Int) = true → j ≤ n) ∧ edit_Diff.p5 k (edit_Diff.p4 k m) s t (i : Int) m4 = edit_Diff.p7 k k s t (n : Int) 0 m4 := by
      intro hf
      cases i with
      | zero =>
        rcases hf with hf | hf
        · rw [show (((0 : Nat) : Int)) = 0 from rfl, e1] at hf; cases hf
        · rw [show (((0 : Nat) : Int)) = 0 from rfl, e2] at hf; cases hf
      | succ i =>
        obtain ⟨n, n1, n2, n3, n4, n5⟩ := diff_p4 k s t m4 hs e1 e2 m i (by omega) (by omega)
        refine ⟨n, by omega, n2, n3, fun j hj a b => ?_, ?_⟩
        · rcases Nat.lt_or_ge j (i + 1) with hlt | hge
          · exact n4 j (by omega) a b
          · have : j = i + 1 := by omega
            subst this
            rcases hf with hf | hf
            · rw [a] at hf; cases hf
            · rw [b] at hf; cases hf
        · rw [← n5]
          have wi : w64 (((i + 1 : Nat) : Int) - 1) = (i : Int) := by rw [w64_id (by omega) (by omega)]; omega
          show edit_Diff.p4 k m s t (w64 (((i + 1 : Nat) : Int) - 1)) m4 = _
          rw [wi]
    cases ha : edg s (i : Int) with
    | false => exact go (.inl ha)
    | true =>
      cases hb : edg t (i : Int) with
      | false => exact go (.inr hb)
      | true => exact ⟨i, Nat.le_refl _, ha, hb, fun j hj _ _ => hj, rfl⟩
theorem diff_p7 (k : Nat) (s t : List UInt8) (hs : s.length < 1000) (ht : t.length < 1000) (m4 : EdI) (n : Nat) (n1 : n ≤ s.length) (n2 : n ≤ t.length) : ∀ (m i : Nat), s.length < m + i → n + i ≤ s.length → n + i ≤ t.length → s.drop (s.length - i) = t.drop (t.length - i) →
    ∃ q, n + q ≤ s.length ∧ n + q ≤ t.length ∧ s.drop (s.length - q) = t.drop (t.length - q) ∧ (∀ j, n + j ≤ s.length → n + j ≤ t.length → s.drop (s.length - j) = t.drop (t.length - j) → j ≤ q) ∧ edit_Diff.p7 k m s t (n : Int) (i : Int) m4 = edit_Diff.p10 k k s t (n : Int) (q : Int) m4
  | 0, i, h, _, _, _ => by omega
  | m + 1, i, h, h1, h2, he => by
    have step : edit_Diff.p7 k (m + 1) s t (n : Int) (i : Int) m4 = edit_Diff.t7 (edit_Diff.p8 k (edit_Diff.p7 k m)) (edit_Diff.p9 k) s t (n : Int) (i : Int) m4 := rfl
    have out : edit_Diff.p9 k s t (n : Int) (i : Int) m4 = edit_Diff.p10 k k s t (n : Int) (i : Int) m4 := rfl
    rw [step]
    simp only [edit_Diff.t7, iteB_dec]
    rw [w64_id (n := (s.length : Int) - n) (by omega) (by omega), w64_id (n := (t.length : Int) - n) (by omega) (by omega), w64_id (n := (s.length : Int) - 1) (by omega) (by omega), w64_id (n := (t.length : Int) - 1) (by omega) (by omega), w64_id (n := (s.length : Int) - 1 - i) (by omega) (by omega), w64_id (n := (t.length : Int) - 1 - i) (by omega) (by omega)]
    by_cases c1 : n + i < s.length
    · rw [if_pos (by omega)]
      by_cases c2 : n + i < t.length
      · rw [if_pos (by omega), show (s.length : Int) - 1 - i = ((s.length - 1 - i : Nat) : Int) by omega, show (t.length : Int) - 1 - i = ((t.length - 1 - i : Nat) : Int) by omega, withinR_nat (by omega), withinR_nat (by omega)]
        by_cases c3 : byteAt s (s.length - 1 - i) = byteAt t (t.length - 1 - i)
        · rw [if_pos c3]
          have wi : w64 ((i : Int) + 1) = ((i + 1 : Nat) : Int) := w64_id (by omega) (by omega)
          have nxt : edit_Diff.p8 k (edit_Diff.p7 k m) s t (n : Int) (i : Int) m4 = edit_Diff.p7 k m s t (n : Int) ((i + 1 : Nat) : Int) m4 := by
            show edit_Diff.p7 k m s t (n : Int) (w64 ((i : Int) + 1)) m4 = _
            rw [wi]
          rw [nxt]
          refine diff_p7 k s t hs ht m4 n n1 n2 m (i + 1) (by omega) (by omega) (by omega) ?_
          rw [show s.length - (i + 1) = s.length - 1 - i by omega, show t.length - (i + 1) = t.length - 1 - i by omega, drop_cons s _ (by omega), drop_cons t _ (by omega), show s.length - 1 - i + 1 = s.length - i by omega, show t.length - 1 - i + 1 = t.length - i by omega, he, (byteAt_inj s t _ _).1 c3]
        · rw [if_neg c3, out]
          refine ⟨i, h1, h2, he, fun j j1 j2 je => ?_, rfl⟩
          rcases Nat.lt_or_ge i j with hlt | hge
          · exfalso
            apply c3
            have a := getD_drop s (j - 1 - i) (s.length - j)
            have b := getD_drop t (j - 1 - i) (t.length - j)
            rw [show s.length - j + (j - 1 - i) = s.length - 1 - i by omega] at a
            rw [show t.length - j + (j - 1 - i) = t.length - 1 - i by omega] at b
            rw [byteAt_inj, ← a, ← b, je]
          · exact hge
      · rw [if_neg (by omega), out]
        exact ⟨i, h1, h2, he, fun j j1 j2 je => by omega, rfl⟩
    · rw [if_neg (by omega), out]
      exact ⟨i, h1, h2, he, fun j j1 j2 je => by omega, rfl⟩
theorem diff_p10 (k : Nat) (s t : List UInt8) (m4 : EdI) (n : Int) (hs : s.length < 1000) (ht : t.length < 1000) : ∀ (m i : Nat), i < m → i ≤ s.length → i ≤ t.length →
    ∃ q, q ≤ i ∧ edg s ((s.length - q : Nat) : Int) = true ∧ edg t ((t.length - q : Nat) : Int) = true ∧ (∀ j : Nat, j ≤ i → edg s ((s.length - j : Nat) : Int) = true → edg t ((t.length - j : Nat) : Int) = true → j ≤ q) ∧ edit_Diff.p10 k m s t n (i : Int) m4 = edit_Diff.p12 k s t n (q : Int) m4
  | 0, i, h, _, _ => by omega
  | m + 1, i, h, hi, hi2 => by
    have step : edit_Diff.p10 k (m + 1) s t n (i : Int) m4 = edit_Diff.t10 (edit_Diff.p11 k (edit_Diff.p10 k m)) (edit_Diff.p12 k) s t n (i : Int) m4 := rfl
    rw [step]
    simp only [edit_Diff.t10, uedge_edg, bindR_val]
    rw [w64_id (n := (s.length : Int) - i) (by omega) (by omega), w64_id (n := (t.length : Int) - i) (by omega) (by omega), show (s.length : Int) - i = ((s.length - i : Nat) : Int) by omega, show (t.length : Int) - i = ((t.length - i : Nat) : Int) by omega]
    have go : (edg s ((s.length - i : Nat) : Int) = false ∨ edg t ((t.length - i : Nat) : Int) = false) → ∃ q, q ≤ i ∧ edg s ((s.length - q : Nat) : Int) = true ∧ edg t ((t.length - q : Nat) : Int) = true ∧ (∀ j : Nat, j ≤ i → edg s ((s.length - j : Nat) : Int) = true → edg t ((t.length - j : Nat) : Int) = true → j ≤ q) ∧ edit_Diff.p11 k (edit_Diff.p10 k m) s t n (i : Int) m4 = edit_Diff.p12 k s t n (q : Int) m4 := by
      intro hf
      cases i with
      | zero =>
        rcases hf with hf | hf
        · rw [Nat.sub_zero, edg_len] at hf; cases hf
        · rw [Nat.sub_zero, edg_len] at hf; cases hf
      | succ i =>
        obtain ⟨q, n1, n2, n3, n4, n5⟩ := diff_p10 k s t m4 n hs ht m i (by omega) (by omega) (by omega)
        refine ⟨q, by omega, n2, n3, fun j hj a b => ?_, ?_⟩
        · rcases Nat.lt_or_ge j (i + 1) with hlt | hge
          · exact n4 j (by omega) a b
          · have : j = i + 1 := by omega
            subst this
            rcases hf with hf | hf
            · rw [a] at hf; cases hf
            · rw [b] at hf; cases hf
        · rw [← n5]
          have wi : w64 (((i + 1 : Nat) : Int) - 1) = (i : Int) := by rw [w64_id (by omega) (by omega)]; omega
          show edit_Diff.p10 k m s t n (w64 (((i + 1 : Nat) : Int) - 1)) m4 = _
          rw [wi]
    cases ha : edg s ((s.length - i : Nat) : Int) with
    | false => exact go (.inl ha)
    | true =>
      cases hb : edg t ((t.length - i : Nat) : Int) with
      | false => exact go (.inr hb)
      | true => exact ⟨i, Nat.le_refl _, ha, hb, fun j hj _ _ => hj, rfl⟩
/-- What Diff gives: n bytes ahead, q bytes behind. -/
structure Df (s t : List UInt8) (n q : Nat) : Prop where
  a1 : n + q ≤ s.length
  a2 : n + q ≤ t.length
  pre : s.take n = t.take n
  e1 : edg s (n : Int) = true
  e2 : edg t (n : Int) = true
  mx : ∀ j : Nat, j ≤ s.length → j ≤ t.length → s.take j = t.take j → edg s (j : Int) = true → edg t (j : Int) = true → j ≤ n
  suf : s.drop (s.length - q) = t.drop (t.length - q)
  e3 : edg s ((s.length - q : Nat) : Int) = true
  e4 : edg t ((t.length - q : Nat) : Int) = true
  my : ∀ j : Nat, n + j ≤ s.length → n + j ≤ t.length → s.drop (s.length - j) = t.drop (t.length - j) → edg s ((s.length - j : Nat) : Int) = true → edg t ((t.length - j : Nat) : Int) = true → j ≤ q
theorem take_le {s t : List UInt8} {i j : Nat} (h : s.take j = t.take j) (hi : i ≤ j) : s.take i = t.take i := by
  have := congrArg (List.take i) h
  rw [List.take_take, List.take_take, Nat.min_eq_left hi] at this
  exact this
theorem drop_le {s t : List UInt8} {i j : Nat} (h : s.drop (s.length - j) = t.drop (t.length - j)) (hi : i ≤ j) (h1 : j ≤ s.length) (h2 : j ≤ t.length) : s.drop (s.length - i) = t.drop (t.length - i) := by
  have := congrArg (List.drop (j - i)) h
  rw [List.drop_drop, List.drop_drop] at this
  rw [show s.length - i = s.length - j + (j - i) by omega, show t.length - i = t.length - j + (j - i) by omega]
  exact this
theorem Diff_eq (s t : List UInt8) (hs : s.length < 1000) (ht : t.length < 1000) (ws : edg s 0 = true) (wt : edg t 0 = true) :
    ∃ n q, Df s t n q ∧ s_edit_Diff (s, (t, ())) = some (cE (n, (s.length - q - n, (t.take (t.length - q)).drop n)), ()) := by
  have st : s_edit_Diff (s, (t, ())) = edit_Diff.p1 fuel fuel s t ((0 : Nat) : Int) ((0 : Int), ((0 : Int), ([] : List UInt8))) := rfl
  have hf := fuel_gt (s.length + t.length) (by omega)
  obtain ⟨i, i1, i2, i3, i4, i5⟩ := diff_p1 fuel s t hs ht ((0 : Int), ((0 : Int), ([] : List UInt8))) fuel 0 (by omega) (by omega) (by omega) rfl
  obtain ⟨n, n1, n2, n3, n4, n5⟩ := diff_p4 fuel s t ((0 : Int), ((0 : Int), ([] : List UInt8))) hs ws wt fuel i (by omega) i1
  obtain ⟨j, j1, j2, j3, j4, j5⟩ := diff_p7 fuel s t hs ht ((0 : Int), ((0 : Int), ([] : List UInt8))) n (by omega) (by omega) fuel 0 (by omega) (by omega) (by omega) (by simp)
  obtain ⟨q, q1, q2, q3, q4, q5⟩ := diff_p10 fuel s t ((0 : Int), ((0 : Int), ([] : List UInt8))) (n : Int) hs ht fuel j (by omega) (by omega) (by omega)
  refine ⟨n, q, ⟨by omega, by omega, take_le i3 n1, n2, n3, fun x x1 x2 x3 x4 x5 => n4 x (i4 x x1 x2 x3) x4 x5, drop_le j3 q1 (by omega) (by omega), q2, q3, fun x x1 x2 x3 x4 x5 => q4 x (j4 x x1 x2 x3) x4 x5⟩, ?_⟩
  rw [st, i5, n5]
  show edit_Diff.p7 fuel fuel s t (n : Int) ((0 : Nat) : Int) _ = _
  rw [j5, q5]
  show edit_Diff.t12 s t (n : Int) (q : Int) _ = _
  simp only [edit_Diff.t12]
  rw [w64_id (n := (s.length : Int) - q) (by omega) (by omega), w64_id (n := (t.length : Int) - q) (by omega) (by omega), w64_id (n := (s.length : Int) - q - n) (by omega) (by omega), show (t.length : Int) - q = ((t.length - q : Nat) : Int) by omega, mustR_dec (by omega), mustR_dec (by omega), mustR_dec (by omega), mustR_dec (by omega), show (s.length : Int) - q - n = ((s.length - q - n : Nat) : Int) by omega, Int.toNat_natCast, Int.toNat_natCast]
  rfl

theorem dlaw_p14 (k : Nat) (s t : List UInt8) (hs : s.length < 1000) (ht : t.length < 1000) (n q : Nat) (D : Df s t n q) (v : List UInt8) : ∀ (m d : Nat), s.length < m + d → n + d + q ≤ s.length →
    law04_EditDiffs.p14 k m s t (n : Int) (d : Int) (((n : Nat) : Int), (((s.length - q - n : Nat) : Int), v)) = some (true, ())
  | 0, d, h, _ => by have := D.a1; omega
  | m + 1, d, h, hd => by
    have step : law04_EditDiffs.p14 k (m + 1) s t (n : Int) (d : Int) (((n : Nat) : Int), (((s.length - q - n : Nat) : Int), v)) = law04_EditDiffs.t14 (law04_EditDiffs.p15 k (law04_EditDiffs.p14 k m)) (law04_EditDiffs.p16 k) s t (n : Int) (d : Int) (((n : Nat) : Int), (((s.length - q - n : Nat) : Int), v)) := rfl
    rw [step]
    simp only [law04_EditDiffs.t14, iteB_dec, redge_edg, bindR_val]
    have a1 := D.a1
    have a2 := D.a2
    by_cases c : n + d + q < s.length
    · have wi : w64 ((d : Int) + 1) = ((d + 1 : Nat) : Int) := w64_id (by omega) (by omega)
      have nxt : law04_EditDiffs.p15 k (law04_EditDiffs.p14 k m) s t (n : Int) (d : Int) false (((n : Nat) : Int), (((s.length - q - n : Nat) : Int), v)) = some (true, ()) := by
        show law04_EditDiffs.p14 k m s t (n : Int) (w64 ((d : Int) + 1)) _ = _
        rw [wi]
        exact dlaw_p14 k s t hs ht n q D v m (d + 1) (by omega) (by omega)
      rw [if_pos (by omega)]
      rw [w64_id (n := (s.length : Int) - n) (by omega) (by omega), w64_id (n := (s.length : Int) - n - d) (by omega) (by omega), w64_id (n := (t.length : Int) - ((s.length : Int) - n - d)) (by omega) (by omega), w64_id (n := (n : Int) + d) (by omega) (by omega)]
      by_cases c2 : (n : Int) ≤ (t.length : Int) - ((s.length : Int) - n - d)
      · rw [if_pos c2, show (t.length : Int) - ((s.length : Int) - n - d) = ((t.length - (s.length - n - d) : Nat) : Int) by omega, show (n : Int) + d = ((s.length - (s.length - n - d) : Nat) : Int) by omega]
        cases h1 : edg s ((s.length - (s.length - n - d) : Nat) : Int) with
        | false => exact nxt
        | true =>
          cases h2 : edg t ((t.length - (s.length - n - d) : Nat) : Int) with
          | false => exact nxt
          | true =>
            rw [iteB_true, iteB_true, mustR_dec (by omega), mustR_dec (by omega), mustR_dec (by omega), mustR_dec (by omega), Int.toNat_natCast, Int.toNat_natCast, List.take_length, List.take_length, decide_eq_false]
            · exact nxt
            · intro he
              have := D.my (s.length - n - d) (by omega) (by omega) he h1 h2
              omega
      · rw [if_neg c2]; exact nxt
    · rw [if_neg (by omega)]; rfl
theorem dlaw_p9 (k : Nat) (hk : 1000 < k) (s t : List UInt8) (hs : s.length < 1000) (ht : t.length < 1000) (n q : Nat) (D : Df s t n q) (v : List UInt8) : ∀ (m i : Nat) (c : Int), s.length + 1 < m + i → i ≤ s.length + 1 → i ≤ t.length + 1 → (n < i → c = n) →
    law04_EditDiffs.p9 k m s t c (i : Int) (((n : Nat) : Int), (((s.length - q - n : Nat) : Int), v)) = some (true, ())
  | 0, i, c, h, h1, h2, _ => by omega
  | m + 1, i, c, h, h1, h2, hc => by
    have a1 := D.a1
    have a2 := D.a2
    have step : law04_EditDiffs.p9 k (m + 1) s t c (i : Int) (((n : Nat) : Int), (((s.length - q - n : Nat) : Int), v)) = law04_EditDiffs.t9 (law04_EditDiffs.p10 k (law04_EditDiffs.p9 k m)) (law04_EditDiffs.p11 k) s t c (i : Int) (((n : Nat) : Int), (((s.length - q - n : Nat) : Int), v)) := rfl
    rw [step]
    have out : n < i → law04_EditDiffs.p11 k s t c (((n : Nat) : Int), (((s.length - q - n : Nat) : Int), v)) = some (true, ()) := by
      intro hi
      rw [hc hi]
      show law04_EditDiffs.t11 (law04_EditDiffs.p14 k k) s t (n : Int) _ = _
      simp only [law04_EditDiffs.t11, decide_true, Bool.not_true, iteB_false]
      exact dlaw_p14 k s t hs ht n q D v k 0 (by omega) (by omega)
    simp only [law04_EditDiffs.t9, iteB_dec]
    by_cases c1 : i ≤ s.length
    · rw [if_pos (by omega)]
      by_cases c2 : i ≤ t.length
      · rw [if_pos (by omega)]
        have wi : w64 ((i : Int) + 1) = ((i + 1 : Nat) : Int) := w64_id (by omega) (by omega)
        have yes : i ≤ n → law04_EditDiffs.p12 k (law04_EditDiffs.p9 k m) s t c (i : Int) true (((n : Nat) : Int), (((s.length - q - n : Nat) : Int), v)) = some (true, ()) := by
          intro hi
          show law04_EditDiffs.p9 k m s t (i : Int) (w64 ((i : Int) + 1)) _ = _
          rw [wi]
          exact dlaw_p9 k hk s t hs ht n q D v m (i + 1) (i : Int) (by omega) (by omega) (by omega) (fun h => (by omega : (i : Int) = (n : Int)))
        have nay : i ≠ n → law04_EditDiffs.p12 k (law04_EditDiffs.p9 k m) s t c (i : Int) false (((n : Nat) : Int), (((s.length - q - n : Nat) : Int), v)) = some (true, ()) := by
          intro hi
          show law04_EditDiffs.p9 k m s t c (w64 ((i : Int) + 1)) _ = _
          rw [wi]
          exact dlaw_p9 k hk s t hs ht n q D v m (i + 1) c (by omega) (by omega) (by omega) (fun h => hc (by omega))
        show law04_EditDiffs.t10 (law04_EditDiffs.p12 k (law04_EditDiffs.p9 k m)) s t c (i : Int) _ = _
        simp only [law04_EditDiffs.t10, iteB_dec, redge_edg, bindR_val, List.drop_zero, Int.toNat_natCast]
        rw [mustR_dec (by omega), mustR_dec (by omega), mustR_dec (by omega), mustR_dec (by omega)]
        by_cases c3 : s.take i = t.take i
        · rw [if_pos c3]
          cases h1 : edg s (i : Int) with
          | false => exact nay (fun h => by rw [h, D.e1] at h1; cases h1)
          | true =>
            rw [iteB_true]
            cases h2 : edg t (i : Int) with
            | false => exact nay (fun h => by rw [h, D.e2] at h2; cases h2)
            | true => exact yes (D.mx i c1 c2 c3 h1 h2)
        · rw [if_neg c3]; exact nay (fun h => c3 (by rw [h]; exact D.pre))
      · rw [if_neg (by omega)]; exact out (by omega)
    · rw [if_neg (by omega)]; exact out (by omega)
theorem wh_e0 {s : List UInt8} (h : wh fuel s = true) : edg s 0 = true := by
  have := edg_hE s 0 (by omega)
  rw [List.drop_zero, wh_hE h] at this
  exact this
theorem diffsLaw (a b : List Int) : s_law04_EditDiffs (a, (b, ())) = some (true, ()) := by
  have st : s_law04_EditDiffs (a, (b, ())) = law04_EditDiffs.t0 (law04_EditDiffs.p1 fuel fuel) a b := rfl
  rw [st]
  simp only [law04_EditDiffs.t0, alive4, bindR_val, notB_true, iteB_false]
  have hf := fuel_gt 1000 (by omega)
  obtain ⟨ms, m1, m2, m3⟩ := txt_p1 fuel a b [] fuel 0 [] (by omega) (by omega) (fun m hm => by cases hm) (by simp)
  obtain ⟨ns, l1, l2, l3⟩ := txt_p4 fuel b (W ms) fuel 0 [] (by omega) (by omega) (fun m hm => by cases hm) (by simp)
  refine Eq.trans m3 (Eq.trans l3 ?_)
  have w1 := W_len ms
  have w2 := W_len ns
  have hws : wh fuel (W ms) = true := wh_W ms fuel m1 (by omega)
  have hwt : wh fuel (W ns) = true := wh_W ns fuel l1 (by omega)
  generalize W ms = s at w1 hws ⊢
  generalize W ns = t at w2 hwt ⊢
  obtain ⟨n, q, D, hD⟩ := Diff_eq s t (by omega) (by omega) (wh_e0 hws) (wh_e0 hwt)
  have a1 := D.a1
  have a2 := D.a2
  have hil : ((t.take (t.length - q)).drop n).length = t.length - q - n := by rw [List.length_drop, List.length_take]; omega
  have hN : Num s.length 0 [(n, (s.length - q - n, (t.take (t.length - q)).drop n))] := ⟨Nat.zero_le _, by show n + (s.length - q - n) ≤ s.length; omega, trivial⟩
  have hS : SmallN [(n, (s.length - q - n, (t.take (t.length - q)).drop n))] := ⟨by simp, fun o ho => by rw [List.mem_singleton.1 ho]; show ((t.take (t.length - q)).drop n).length ≤ 10000; omega⟩
  have hE : Edgs s [(n, (s.length - q - n, (t.take (t.length - q)).drop n))] := fun o ho => by
    rw [List.mem_singleton.1 ho]
    refine ⟨D.e1, ?_, wh_piece (by omega) hwt n (t.length - q) (by omega) (by omega) D.e2 D.e4⟩
    show edg s ((n + (s.length - q - n) : Nat) : Int) = true
    rw [show n + (s.length - q - n) = s.length - q by omega]; exact D.e3
  have hc : chk s 0 s.length ([(n, (s.length - q - n, (t.take (t.length - q)).drop n))].map cE) = 0 := by
    refine chk_of s _ 0 _ hN hE ?_
    simp only [grow]; omega
  have C := rcheck_eq s (by omega) _ hS.map
  have A := rApply_eq s (by omega) _ hS hN
  have ea : app s [(n, (s.length - q - n, (t.take (t.length - q)).drop n))] = t := by
    show s.take n ++ (t.take (t.length - q)).drop n ++ s.drop (n + (s.length - q - n)) = t
    rw [show n + (s.length - q - n) = s.length - q by omega, D.suf, D.pre]
    have e1 : (t.take (t.length - q)).take n = t.take n := by rw [List.take_take, Nat.min_eq_left (by omega)]
    rw [← e1, List.take_append_drop, List.take_append_drop]
  rw [hc] at C
  rw [ea] at A
  show law04_EditDiffs.t6 (law04_EditDiffs.p7 fuel) s t = _
  simp only [law04_EditDiffs.t6, hD, bindR_val]
  have C' : s_ref04_Check (s, ([cE (n, (s.length - q - n, (t.take (t.length - q)).drop n))], ())) = some (0, ()) := C
  have A' : s_ref04_Apply (s, ([cE (n, (s.length - q - n, (t.take (t.length - q)).drop n))], ())) = some (t, ()) := A
  rw [C', bindR_val]
  simp only [decide_true, Bool.not_true, iteB_false]
  rw [A', bindR_val]
  simp only [decide_true, Bool.not_true]
  exact dlaw_p9 fuel hf s t (by omega) (by omega) n q D _ fuel 0 0 (by omega) (by omega) (by omega) (fun h => by omega)
end Go.Proofs.Ytdifekkamjoepaa.Vm.Rp
